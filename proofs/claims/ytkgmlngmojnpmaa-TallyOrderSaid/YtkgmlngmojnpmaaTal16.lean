/- The law TallyMissing: who is missing has not said what is asked. -/
import Derived.Test.YtkgmlngmojnpmaaProg
import Derived.Test.YtkgmlngmojnpmaaTal15
namespace Go.Proofs.Ytkgmlngmojnpmaa
open Go Go.RowKit B
set_option linter.unusedVariables false
set_option linter.unusedSimpArgs false
namespace Tal


/-- a tally, by itself -/
def PT (F : Snap) (p : List Res) (a : Nat) (t : T) : Prop := ∃ mv mc lv lc, p = [[(mv, mobj lv)], [(mc, mobj lc)]] ∧ TR F p a 0 1 mv mc lv lc t
theorem PT.mono {F G : Snap} {p : List Res} {a : Nat} {t : T} (hle : Le F G) (h : PT F p a t) : PT G p a t := by
  obtain ⟨mv, mc, lv, lc, e, h1⟩ := h
  exact ⟨mv, mc, lv, lc, e, h1.mono hle⟩
theorem Pr.tal {W w : World} {F : Snap} {p cs : List Res} {a b : Nat} {t : T} (h : St W F (p ++ cs) w) (hp : Pr F p a b t) : ∃ q, PT F q a t ∧ St W F (q ++ cs) w := by
  obtain ⟨mv, mc, lv, lc, bv, bc, zv, zc, fv, fc, rfl, h1, h2⟩ := hp
  refine ⟨[[(mv, mobj lv)], [(mc, mobj lc)]], ⟨mv, mc, lv, lc, rfl, TR.pre _ h1 (by simp) (by simp)⟩, ?_⟩
  exact (h.drop 2).drop 2
theorem PT.mk {W w : World} {F : Snap} {cs : List Res} {a mv mc : Nat} {lv lc : List (Int × Value)} {t : T} (ht : TR F ([(mv, mobj lv)] :: [(mc, mobj lc)] :: cs) a 0 1 mv mc lv lc t) : PT F [[(mv, mobj lv)], [(mc, mobj lc)]] a t := ⟨mv, mc, lv, lc, rfl, TR.pre cs ht (by simp) (by simp)⟩
theorem PT.facts {F : Snap} {p : List Res} {a : Nat} {t : T} (h : PT F p a t) : t.vs.length = t.ns.length ∧ t.cs.length = t.ns.length ∧ t.ns.Nodup ∧ 0 < t.ns.length ∧ t.ns.length ≤ 16 := by
  obtain ⟨mv, mc, lv, lc, e, h1⟩ := h
  exact ⟨h1.rv.len.1, h1.rc.len.1, h1.nd, h1.pos, h1.small⟩
theorem tstate_t {W : World} {F : Snap} {p cs : List Res} (w : World) {a : Nat} {t : T} (h : St W F (p ++ cs) w) (hp : PT F p a t) : Calls Try.prog 13 #[.pointer (some ⟨a, 0, none⟩)] w fun e w' => e = .returned (Vi t.state) ∧ St W F (p ++ cs) w' := by
  obtain ⟨mv, mc, lv, lc, rfl, h1⟩ := hp
  exact state_c w h (h1.app cs)
theorem tcode_t {W : World} {F : Snap} {p cs : List Res} (w : World) {a : Nat} {t : T} (h : St W F (p ++ cs) w) (hp : PT F p a t) : Calls Try.prog 15 #[.pointer (some ⟨a, 0, none⟩)] w fun e w' => e = .returned (Vi t.code) ∧ St W F (p ++ cs) w' := by
  obtain ⟨mv, mc, lv, lc, rfl, h1⟩ := hp
  exact code_c w h (h1.app cs)
theorem tmiss_t {W : World} {F : Snap} {p cs : List Res} (w : World) {a : Nat} {t : T} (h : St W F (p ++ cs) w) (hp : PT F p a t) : Calls Try.prog 18 #[.pointer (some ⟨a, 0, none⟩)] w (Gives W F (p ++ cs) Vi t.missing) := by
  obtain ⟨mv, mc, lv, lc, rfl, h1⟩ := hp
  exact missing_c w h (h1.app cs)
theorem tvote_t {W : World} {F : Snap} {p cs : List Res} (w : World) {a : Nat} {t : T} (n : Int) (b : Bool) (h : St W F (p ++ cs) w) (hp : PT F p a t) : Calls Try.prog 22 #[.pointer (some ⟨a, 0, none⟩), Vi n, .bool b] w fun e w' => ∃ G p', Le F G ∧ e = .returned (Vi (t.vote n b).1) ∧ PT G p' a (t.vote n b).2 ∧ St W G (p' ++ cs) w' := by
  obtain ⟨mv, mc, lv, lc, rfl, h1⟩ := hp
  refine (vote_c w n b h (h1.app cs)).mono fun e w' ⟨G, l, h2, h3, h4, h5⟩ => ⟨G, [[(mv, mobj l)], [(mc, mobj lc)]], h2, h3, ⟨mv, mc, _, _, rfl, ?_⟩, h4⟩
  exact TR.pre cs h5 (by simp) (by simp)
theorem texit_t {W : World} {F : Snap} {p cs : List Res} (w : World) {a : Nat} {t : T} (n c : Int) (h : St W F (p ++ cs) w) (hp : PT F p a t) : Calls Try.prog 23 #[.pointer (some ⟨a, 0, none⟩), Vi n, Vi c] w fun e w' => ∃ G p', Le F G ∧ e = .returned (Vi (t.exit n c).1) ∧ PT G p' a (t.exit n c).2 ∧ St W G (p' ++ cs) w' := by
  obtain ⟨mv, mc, lv, lc, rfl, h1⟩ := hp
  refine (exit_c w n c h (h1.app cs)).mono fun e w' ⟨G, l, h2, h3, h4, h5⟩ => ⟨G, [[(mv, mobj lv)], [(mc, mobj l)]], h2, h3, ⟨mv, mc, _, _, rfl, ?_⟩, h4⟩
  exact TR.pre cs h5 (by simp) (by simp)
theorem exit_stay {t : T} {n c : Int} (h : t.state ≠ 1) : (t.exit n c).2 = t := by
  by_cases hb : c < 0 ∨ 255 < c
  · rw [exit_no hb]
  · rw [exit_yes hb]
    unfold say
    cases look n t.ns t.cs with
    | none => rfl
    | some o =>
      cases o with
      | none => simp [h]
      | some z => simp only; split <;> rfl
theorem vote_stay {t : T} {n : Int} {y : Bool} (h : t.state ≠ 0) : (t.vote n y).2 = t := by
  unfold T.vote say
  cases look n t.ns t.vs with
  | none => rfl
  | some o =>
    cases o with
    | none => simp [h]
    | some z => simp only; split <;> rfl
theorem miss_look {α : Type} {n : Int} : ∀ {ns : List Int} {os : List (Option α)}, ns.Nodup → n ∈ miss ns os → look n ns os = some none
  | [], [], _, h => by simp [miss] at h
  | [], _ :: _, _, h => by simp [miss] at h
  | _ :: _, [], _, h => by simp [miss] at h
  | m :: ns, o :: os, hd, h => by
    have hd' := List.nodup_cons.1 hd
    unfold miss at h
    unfold look
    by_cases e : n = m
    · rw [if_pos e]
      cases o with
      | none => rfl
      | some x =>
        simp only [Option.isNone_some] at h
        exact absurd (e ▸ miss_sub h) hd'.1
    · rw [if_neg e]
      refine miss_look hd'.2 ?_
      cases o with
      | none => simpa [e] using h
      | some x => simpa using h
where
  miss_sub {α : Type} {n : Int} : ∀ {ns : List Int} {os : List (Option α)}, n ∈ miss ns os → n ∈ ns
  | [], [], h => by simp [miss] at h
  | [], _ :: _, h => by simp [miss] at h
  | _ :: _, [], h => by simp [miss] at h
  | m :: ns, o :: os, h => by
    unfold miss at h
    cases o with
    | none =>
      simp only [Option.isNone_none, if_true, List.mem_cons] at h
      rcases h with h | h
      · simp [h]
      · simp [miss_sub h]
    | some x =>
      simp only [Option.isNone_some] at h
      simp [miss_sub h]
theorem miss_put {α : Type} {n : Int} {x : α} : ∀ {ns : List Int} {os : List (Option α)}, look n ns os = some none → (miss ns (put n x ns os)).length + 1 = (miss ns os).length
  | [], [], h => by simp [look] at h
  | [], _ :: _, h => by simp [look] at h
  | _ :: _, [], h => by simp [look] at h
  | m :: ns, o :: os, h => by
    unfold look at h
    unfold put
    by_cases e : n = m
    · rw [if_pos e] at h
      rw [if_pos e]
      injection h with h
      subst h
      simp [miss]
    · rw [if_neg e] at h
      rw [if_neg e]
      have := miss_put (x := x) h
      cases o with
      | none => simp only [miss, Option.isNone_none, if_true, List.length_cons]; omega
      | some y => simpa [miss] using this
theorem put_false {n : Int} : ∀ {ns : List Int} {os : List (Option Bool)}, some false ∉ os → some false ∉ put n true ns os
  | [], [], _ => by simp [put]
  | [], _ :: _, h => h
  | _ :: _, [], h => by simp [put]
  | m :: ns, o :: os, h => by
    simp only [List.mem_cons, not_or] at h
    unfold put
    split
    · simp [h.2]
    · simp only [List.mem_cons, not_or]
      exact ⟨h.1, put_false h.2⟩
def todo (t : T) : Nat := (miss t.ns t.vs).length + (miss t.ns t.cs).length
theorem state0 {t : T} (h : t.state = 0) : some false ∉ t.vs ∧ 0 < (miss t.ns t.vs).length := by
  unfold T.state at h
  split at h
  · cases h
  · rename_i h1
    split at h
    · rename_i h2; exact ⟨h1, h2⟩
    · split at h <;> cases h
theorem state1 {t : T} (h : t.state = 1) : some false ∉ t.vs ∧ (miss t.ns t.vs).length = 0 ∧ 0 < (miss t.ns t.cs).length := by
  unfold T.state at h
  split at h
  · cases h
  · rename_i h1
    split at h
    · cases h
    · rename_i h2
      split at h
      · rename_i h3; exact ⟨h1, by omega, h3⟩
      · cases h
theorem state_of {t : T} (h1 : some false ∉ t.vs) : t.state = if 0 < (miss t.ns t.vs).length then 0 else if 0 < (miss t.ns t.cs).length then 1 else 3 := by
  unfold T.state
  rw [if_neg h1]
theorem step0 {t : T} (h : t.state = 0) (hd : t.ns.Nodup) : 0 < t.missing.length ∧ (t.vote (t.missing.getD 0 0) true).1 = 0 ∧ ((t.vote (t.missing.getD 0 0) true).2.state = 0 → (t.vote (t.missing.getD 0 0) true).2.missing.length + 1 = t.missing.length) ∧ todo (t.vote (t.missing.getD 0 0) true).2 < todo t := by
  obtain ⟨h1, h2⟩ := state0 h
  have e : t.missing = miss t.ns t.vs := by simp [T.missing, h]
  rw [e]
  have hm : (miss t.ns t.vs).getD 0 0 ∈ miss t.ns t.vs := mem_at h2
  generalize (miss t.ns t.vs).getD 0 0 = n at *
  have hl := miss_look hd hm
  have h3 := miss_put (x := true) hl
  have hv : t.vote n true = (0, { t with vs := put n true t.ns t.vs }) := by simp [T.vote, say, hl, h]
  rw [hv]
  refine ⟨h2, rfl, fun h0 => ?_, ?_⟩
  · have : ({ t with vs := put n true t.ns t.vs } : T).missing = miss t.ns (put n true t.ns t.vs) := by
      unfold T.missing
      rw [if_pos h0]
    rw [this]; exact h3
  · show (miss t.ns (put n true t.ns t.vs)).length + (miss t.ns t.cs).length < (miss t.ns t.vs).length + (miss t.ns t.cs).length
    omega
theorem step1 {t : T} (h : t.state = 1) (hd : t.ns.Nodup) : 0 < t.missing.length ∧ (t.exit (t.missing.getD 0 0) 0).1 = 0 ∧ ((t.exit (t.missing.getD 0 0) 0).2.state = 1 → (t.exit (t.missing.getD 0 0) 0).2.missing.length + 1 = t.missing.length) ∧ todo (t.exit (t.missing.getD 0 0) 0).2 < todo t := by
  obtain ⟨h1, h2, h2'⟩ := state1 h
  have e : t.missing = miss t.ns t.cs := by simp [T.missing, h]
  rw [e]
  have hm : (miss t.ns t.cs).getD 0 0 ∈ miss t.ns t.cs := mem_at h2'
  generalize (miss t.ns t.cs).getD 0 0 = n at *
  have hl := miss_look hd hm
  have h3 := miss_put (x := (0 : Int)) hl
  have hv : t.exit n 0 = (0, { t with cs := put n 0 t.ns t.cs }) := by rw [exit_yes (by omega)]; simp [say, hl, h]
  rw [hv]
  refine ⟨h2', rfl, fun h0 => ?_, ?_⟩
  · have : ({ t with cs := put n 0 t.ns t.cs } : T).missing = miss t.ns (put n 0 t.ns t.cs) := by
      unfold T.missing
      rw [if_neg (by rw [h0]; decide), if_pos h0]
    rw [this]; exact h3
  · show (miss t.ns t.vs).length + (miss t.ns (put n 0 t.ns t.cs)).length < (miss t.ns t.vs).length + (miss t.ns t.cs).length
    omega
set_option maxRecDepth 100000 in
set_option maxHeartbeats 4000000 in
theorem missing_law {W : World} {F : Snap} {cs : List Res} (w : World) {A B : Option Addr} {cap cap2 : Nat} {ns : List Int} {os : List Op'} (h : St W F cs w) (hA : RdS (Kd.one Vi) F A ns) (hB : RdS KOp F B os) : Calls Try.prog 8 #[.slice A ns.length cap, .slice B os.length cap2] w fun e w' => e = .returned (.bool true) ∧ St W F cs w'  := by
  refine enter (P := Try.prog) (args := [.slice A ns.length cap, .slice B os.length cap2]) Try.func8 rfl rfl rfl ?_
  refine WC.seq ?_
  refine WC.reg ?_
  refine WL.v (Runs.assign rfl) rfl ?_
  refine WL.nil ?_
  refine WN.thn ?_
  refine WC.seq ?_
  refine WC.seq ?_
  rcases cases4 (okN ns) os.length ns.length 100 16 with hA1 | hB1 | ⟨hC1, hok⟩ | ⟨hC1, hok⟩
  · skip
    refine WC.reg ?_
    refine WL.v (Runs.move rfl) rfl ?_
    refine WL.v (Runs.llen Try.underlying23 rfl rfl) rfl ?_
    refine WL.v (Runs.boolT (c := true) (Runs.gtr rfl rfl) (by rw [decide_eq_true_eq]; omega)) rfl ?_
    refine WL.v (Runs.move rfl) rfl ?_
    refine WL.goff rfl rfl rfl rfl ?_
    refine WL.goff rfl rfl rfl rfl ?_
    refine WL.goff rfl rfl rfl rfl ?_
    refine WL.v (Runs.pick rfl rfl rfl) rfl ?_
    refine WL.v (Runs.move rfl) rfl ?_
    refine WL.goff rfl rfl rfl rfl ?_
    refine WL.goff rfl rfl rfl rfl ?_
    refine WL.goff rfl rfl rfl rfl ?_
    refine WL.v (Runs.pick rfl rfl rfl) rfl ?_
    refine WL.nil ?_
    refine WN.thn ?_
    refine WC.condT rfl (rfl) ?_
    refine WC.seq ?_
    refine WC.reg ?_
    refine WL.call can9 rfl rfl (live_c _ h) ?_
    rintro _ w1 ⟨rfl, h1⟩
    refine ⟨_, rfl, ?_⟩
    refine WL.v (Runs.assign rfl) rfl ?_
    refine WL.nil ?_
    refine WN.thn ?_
    refine WC.ret ?_
    exact ret1 rfl rfl ⟨rfl, h1⟩
  · skip
    refine WC.reg ?_
    refine WL.v (Runs.move rfl) rfl ?_
    refine WL.v (Runs.llen Try.underlying23 rfl rfl) rfl ?_
    refine WL.v (Runs.boolT (c := false) (Runs.gtr rfl rfl) (by rw [decide_eq_false_iff_not]; omega)) rfl ?_
    refine WL.v (Runs.move rfl) rfl ?_
    refine WL.gon rfl rfl rfl ?_
    refine WL.v (Runs.move rfl) rfl ?_
    refine WL.gon rfl rfl rfl ?_
    refine WL.v (Runs.llen Try.underlying22 rfl rfl) rfl ?_
    refine WL.gon rfl rfl rfl ?_
    refine WL.v (Runs.boolT (c := true) (Runs.gtr rfl rfl) (by rw [decide_eq_true_eq]; omega)) rfl ?_
    refine WL.v (Runs.pick rfl rfl rfl) rfl ?_
    refine WL.v (Runs.move rfl) rfl ?_
    refine WL.goff rfl rfl rfl rfl ?_
    refine WL.goff rfl rfl rfl rfl ?_
    refine WL.goff rfl rfl rfl rfl ?_
    refine WL.v (Runs.pick rfl rfl rfl) rfl ?_
    refine WL.nil ?_
    refine WN.thn ?_
    refine WC.condT rfl (rfl) ?_
    refine WC.seq ?_
    refine WC.reg ?_
    refine WL.call can9 rfl rfl (live_c _ h) ?_
    rintro _ w2 ⟨rfl, h2⟩
    refine ⟨_, rfl, ?_⟩
    refine WL.v (Runs.assign rfl) rfl ?_
    refine WL.nil ?_
    refine WN.thn ?_
    refine WC.ret ?_
    exact ret1 rfl rfl ⟨rfl, h2⟩
  · skip
    refine WC.reg ?_
    refine WL.v (Runs.move rfl) rfl ?_
    refine WL.v (Runs.llen Try.underlying23 rfl rfl) rfl ?_
    refine WL.v (Runs.boolT (c := false) (Runs.gtr rfl rfl) (by rw [decide_eq_false_iff_not]; omega)) rfl ?_
    refine WL.v (Runs.move rfl) rfl ?_
    refine WL.gon rfl rfl rfl ?_
    refine WL.v (Runs.move rfl) rfl ?_
    refine WL.gon rfl rfl rfl ?_
    refine WL.v (Runs.llen Try.underlying22 rfl rfl) rfl ?_
    refine WL.gon rfl rfl rfl ?_
    refine WL.v (Runs.boolT (c := false) (Runs.gtr rfl rfl) (by rw [decide_eq_false_iff_not]; omega)) rfl ?_
    refine WL.v (Runs.pick rfl rfl rfl) rfl ?_
    refine WL.v (Runs.move rfl) rfl ?_
    refine WL.gon rfl rfl rfl ?_
    refine WL.v (Runs.move rfl) rfl ?_
    refine WL.gon rfl rfl rfl ?_
    refine WL.call can11 rfl rfl (rnew_no _ h hA hok) ?_
    rintro _ w3 ⟨rfl, h3⟩
    refine ⟨_, rfl, ?_⟩
    refine WL.gon rfl rfl rfl ?_
    refine WL.v (Runs.peql Try.underlying27 rfl rfl) rfl ?_
    refine WL.v (Runs.pick rfl rfl rfl) rfl ?_
    refine WL.nil ?_
    refine WN.thn ?_
    refine WC.condT rfl (rfl) ?_
    refine WC.seq ?_
    refine WC.reg ?_
    refine WL.call can9 rfl rfl (live_c _ h3) ?_
    rintro _ w4 ⟨rfl, h4⟩
    refine ⟨_, rfl, ?_⟩
    refine WL.v (Runs.assign rfl) rfl ?_
    refine WL.nil ?_
    refine WN.thn ?_
    refine WC.ret ?_
    exact ret1 rfl rfl ⟨rfl, h4⟩
  · skip
    refine WC.reg ?_
    refine WL.v (Runs.move rfl) rfl ?_
    refine WL.v (Runs.llen Try.underlying23 rfl rfl) rfl ?_
    refine WL.v (Runs.boolT (c := false) (Runs.gtr rfl rfl) (by rw [decide_eq_false_iff_not]; omega)) rfl ?_
    refine WL.v (Runs.move rfl) rfl ?_
    refine WL.gon rfl rfl rfl ?_
    refine WL.v (Runs.move rfl) rfl ?_
    refine WL.gon rfl rfl rfl ?_
    refine WL.v (Runs.llen Try.underlying22 rfl rfl) rfl ?_
    refine WL.gon rfl rfl rfl ?_
    refine WL.v (Runs.boolT (c := false) (Runs.gtr rfl rfl) (by rw [decide_eq_false_iff_not]; omega)) rfl ?_
    refine WL.v (Runs.pick rfl rfl rfl) rfl ?_
    refine WL.v (Runs.move rfl) rfl ?_
    refine WL.gon rfl rfl rfl ?_
    refine WL.v (Runs.move rfl) rfl ?_
    refine WL.gon rfl rfl rfl ?_
    refine WL.call can11 rfl rfl (rnew_y _ h hA hok) ?_
    rintro _ w5 ⟨G0, b0, bv0, bc0, zv0, zc0, fv0, fc0, hle0, rfl, h5, _⟩
    refine ⟨_, rfl, ?_⟩
    have hS0 := (h5.drop 0).drop 0
    replace h5 := hS0
    simp only [List.eraseIdx_cons_zero] at h5
    refine WL.gon rfl rfl rfl ?_
    refine WL.v (Runs.peql Try.underlying27 rfl rfl) rfl ?_
    refine WL.v (Runs.pick rfl rfl rfl) rfl ?_
    refine WL.nil ?_
    refine WN.thn ?_
    refine WC.condF rfl (rfl) ?_
    refine WC.skip ?_
    refine WN.thn ?_
    refine WC.seq ?_
    refine WC.reg ?_
    refine WL.v (Runs.move rfl) rfl ?_
    refine WL.call can10 rfl rfl (new_c _ h5 (hA.mono hle0) (by omega) hok.2 hok.1) ?_
    rintro _ w6 ⟨G1, a, mva, mca, lva, lca, rfl, hle1, h6, hta⟩
    refine ⟨_, rfl, ?_⟩
    refine WL.v (Runs.assign rfl) rfl ?_
    refine WL.nil ?_
    refine WN.thn ?_
    refine WC.seq ?_
    refine WC.reg ?_
    refine WL.v (Runs.move rfl) rfl ?_
    refine WL.call can11 rfl rfl (rnew_y _ h6 (hA.mono (Le.trans hle0 hle1)) hok) ?_
    rintro _ w7 ⟨G2, c, bvk, bck, zvk, zck, fvk, fck, hle2, rfl, h7, hrk⟩
    refine ⟨_, rfl, ?_⟩
    obtain ⟨p, hp, hS⟩ := mkPr hle2 hta hrk h7
    have hG0 := Le.trans hle0 (Le.trans hle1 hle2)
    replace h7 := hS
    refine WL.v (Runs.assign rfl) rfl ?_
    refine WL.nil ?_
    refine WN.thn ?_
    refine WC.seq ?_
    refine WC.seq ?_
    refine WC.reg ?_
    refine WL.v (Runs.move rfl) rfl ?_
    refine WL.v (Runs.peql Try.underlying25 rfl rfl) rfl ?_
    refine WL.nil ?_
    refine WN.thn ?_
    refine WC.condF rfl (rfl) ?_
    refine WC.skip ?_
    refine WN.thn ?_
    refine WC.seq ?_
    refine WC.seq ?_
    refine WC.reg ?_
    refine WL.v (Runs.assign rfl) rfl ?_
    refine WL.nil ?_
    refine WN.thn ?_
    refine WC.block ?_
    refine WC.loop (σ := Nat × Snap × List Res × T) (fun q_ => [(0, .slice A ns.length cap), (1, .slice B os.length cap2), (5, .pointer (some ⟨a, 0, none⟩)), (6, .pointer (some ⟨c, 0, none⟩)), (7, .int .i64 (q_.1 : Int))]) (fun q_ w => q_.1 ≤ os.length ∧ Le F q_.2.1 ∧ Pr q_.2.1 q_.2.2.1 a c q_.2.2.2 ∧ St W q_.2.1 (q_.2.2.1 ++ cs) w) (fun q_ => os.length - q_.1) (⟨0, _, p, T.new ns⟩) (by repeat (first | exact trivial | refine ⟨rfl, ?_⟩)) (⟨by omega, hG0, hp, h7⟩) ?_
    rintro ⟨i, G, p, t⟩ w8 ⟨hk, hG, hp, hL⟩
    try dsimp only at hk hG hp hL
    refine WC.sub (s := [(0, .slice A ns.length cap), (1, .slice B os.length cap2), (5, .pointer (some ⟨a, 0, none⟩)), (6, .pointer (some ⟨c, 0, none⟩)), (7, .int .i64 (i : Int))]) (by repeat (first | exact trivial | refine ⟨rfl, ?_⟩)) ?_
    refine WC.seq ?_
    refine WC.seq ?_
    refine WC.reg ?_
    refine WL.v (Runs.move rfl) rfl ?_
    refine WL.v (Runs.move rfl) rfl ?_
    refine WL.v (Runs.llen Try.underlying23 rfl rfl) rfl ?_
    refine WL.v (Runs.lss rfl rfl) rfl ?_
    refine WL.nil ?_
    refine WN.thn ?_
    refine WC.cond rfl (fun c9 => ?_) (fun c9 => ?_)
    · try simp only [decide_eq_true_eq, decide_eq_false_iff_not, Bool.not_eq_true', Bool.not_eq_false', Bool.and_eq_true, Int.not_lt, Int.not_le] at c9
      first
      | (exfalso; omega)
      | skip
        refine WC.skip ?_
        refine WN.thn ?_
        refine WC.seq ?_
        refine WC.block ?_
        obtain ⟨bd, rfl⟩ := rdA hB (by omega)
        refine WC.reg ?_
        refine WL.v (Runs.move rfl) rfl ?_
        refine WL.v (Runs.move rfl) rfl ?_
        refine WL.v (Runs.move rfl) rfl ?_
        refine WL.v (Runs.move rfl) rfl ?_
        refine WL.v (Runs.lidxK Try.underlying23 inf31 rfl rfl (n := i) rfl (by omega)) rfl ?_
        refine WL.v (Runs.loadRows o0 hL (hB.mono hG) rfl (by omega) Try.underlying31 rfl inf31 rfl) rfl ?_
        refine WL.call can12 rfl rfl (does_c _ (os.getD i o0) hL hp) ?_
        rintro _ w10 ⟨G5, p5, hl5, rfl, hp5, h10⟩
        refine ⟨_, rfl, ?_⟩
        refine WL.nil ?_
        refine WN.blk ?_
        refine WN.thn ?_
        refine WC.reg ?_
        refine WL.v (Runs.move rfl) rfl ?_
        refine WL.v (Runs.addn rfl rfl (by omega)) rfl ?_
        refine WL.v (Runs.assign rfl) rfl ?_
        refine WL.nil ?_
        exact WN.again (⟨i + 1, _, p5, t.does (os.getD i o0)⟩ : Nat × Snap × List Res × T) (by show os.length - (i + 1) < os.length - i; omega) ⟨rfl, rfl, rfl, rfl, rfl, trivial⟩ ⟨by show i + 1 ≤ _; omega, Le.trans hG hl5, hp5, h10⟩
    · try simp only [decide_eq_true_eq, decide_eq_false_iff_not, Bool.not_eq_true', Bool.not_eq_false', Bool.and_eq_true, Int.not_lt, Int.not_le] at c9
      first
      | (exfalso; omega)
      | skip
        refine WC.exit ?_
        refine WX.thn ?_
        refine WX.cut ?_
        refine WX.hit ?_
        refine WN.thn ?_
        refine WC.seq ?_
        refine WC.block ?_
        obtain ⟨qq, hqq, hSq⟩ := Pr.tal hL hp
        refine WC.loop (σ := Snap × List Res × T) (fun q_ => [(5, .pointer (some ⟨a, 0, none⟩))]) (fun q_ w => Le F q_.1 ∧ PT q_.1 q_.2.1 a q_.2.2 ∧ St W q_.1 (q_.2.1 ++ cs) w) (fun q_ => todo q_.2.2) (⟨_, qq, t⟩) (by repeat (first | exact trivial | refine ⟨rfl, ?_⟩)) (⟨hG, hqq, hSq⟩) ?_
        rintro ⟨G, p, t⟩ w11 ⟨hG, hp, hL⟩
        try dsimp only at hG hp hL
        refine WC.sub (s := [(5, .pointer (some ⟨a, 0, none⟩))]) (by repeat (first | exact trivial | refine ⟨rfl, ?_⟩)) ?_
        obtain ⟨hlv, hlc, hnd, hpos0, hsm⟩ := hp.facts
        have hml := missing_len t
        refine WC.seq ?_
        refine WC.seq ?_
        have hcase : t.state = 0 ∨ t.state = 1 ∨ (t.state ≠ 0 ∧ t.state ≠ 1) := by omega
        rcases hcase with hs | hs | ⟨hs, hs1⟩
        · have hstep := step0 hs hnd
          refine WC.reg ?_
          refine WL.v (Runs.move rfl) rfl ?_
          refine WL.call can13 rfl rfl (tstate_t _ hL hp) ?_
          rintro _ w12 ⟨rfl, h12⟩
          refine ⟨_, rfl, ?_⟩
          refine WL.v (Runs.boolT (c := true) (Runs.eql rfl rfl) (decide_eq_true hs)) rfl ?_
          refine WL.v (Runs.move rfl) rfl ?_
          refine WL.goff rfl rfl rfl rfl ?_
          refine WL.goff rfl rfl rfl rfl ?_
          refine WL.goff rfl rfl rfl rfl ?_
          refine WL.v (Runs.pick rfl rfl rfl) rfl ?_
          refine WL.nil ?_
          refine WN.thn ?_
          refine WC.condT rfl (rfl) ?_
          refine WC.skip ?_
          refine WN.thn ?_
          refine WC.block ?_
          refine WC.seq ?_
          refine WC.reg ?_
          refine WL.v (Runs.move rfl) rfl ?_
          refine WL.call can18 rfl rfl (tmiss_t _ h12 hp) ?_
          rintro _ w13 ⟨G14, A14, cap14, hle14, rfl, hc14, hrd14, h13⟩
          refine ⟨_, rfl, ?_⟩
          refine WL.v (Runs.assign rfl) rfl ?_
          refine WL.nil ?_
          refine WN.thn ?_
          refine WC.seq ?_
          refine WC.reg ?_
          refine WL.v (Runs.move rfl) rfl ?_
          refine WL.call can13 rfl rfl (tstate_t _ h13 (hp.mono hle14)) ?_
          rintro _ w15 ⟨rfl, h15⟩
          refine ⟨_, rfl, ?_⟩
          refine WL.v (Runs.assign rfl) rfl ?_
          refine WL.nil ?_
          refine WN.thn ?_
          refine WC.seq ?_
          refine WC.seq ?_
          refine WC.reg ?_
          refine WL.v (Runs.move rfl) rfl ?_
          refine WL.v (Runs.llen Try.underlying22 rfl rfl) rfl ?_
          refine WL.v (Runs.boolT (c := false) (Runs.eql rfl rfl) (decide_eq_false (by omega))) rfl ?_
          refine WL.nil ?_
          refine WN.thn ?_
          refine WC.condF rfl (rfl) ?_
          refine WC.skip ?_
          refine WN.thn ?_
          refine WC.seq ?_
          obtain ⟨al, rfl, hrl⟩ := rd1 hrd14 hstep.1
          refine WC.reg ?_
          refine WL.v (Runs.move rfl) rfl ?_
          refine WL.v (Runs.move rfl) rfl ?_
          refine WL.v (Runs.lidxN Try.underlying22 inf3 rfl rfl (n := 0) rfl (by omega)) rfl ?_
          refine WL.v (Runs.loadR (f := Vi) (0 : Int) h15 hrl (n := 0) (by omega) Try.underlying3 rfl rfl) rfl ?_
          refine WL.call can23 rfl rfl (texit_t _ (t.missing.getD 0 0) 0 h15 (hp.mono hle14)) ?_
          rintro _ w16 ⟨G3, p3, hl3, rfl, hp3, h16⟩
          refine ⟨_, rfl, ?_⟩
          rw [exit_stay (by rw [hs]; decide)] at hp3
          refine WL.v (Runs.assign rfl) rfl ?_
          refine WL.nil ?_
          refine WN.thn ?_
          refine WC.seq ?_
          refine WC.seq ?_
          refine WC.reg ?_
          refine WL.v (Runs.move rfl) rfl ?_
          refine WL.v (Runs.boolT (c := true) (Runs.eql rfl rfl) (decide_eq_true hs)) rfl ?_
          refine WL.nil ?_
          refine WN.thn ?_
          refine WC.condT rfl (rfl) ?_
          refine WC.reg ?_
          refine WL.v (Runs.move rfl) rfl ?_
          refine WL.v (Runs.move rfl) rfl ?_
          refine WL.v (Runs.lidxN Try.underlying22 inf3 rfl rfl (n := 0) rfl (by omega)) rfl ?_
          refine WL.v (Runs.loadR (f := Vi) (0 : Int) (h16.weak hl3) hrl (n := 0) (by omega) Try.underlying3 rfl rfl) rfl ?_
          refine WL.call can22 rfl rfl (tvote_t _ (t.missing.getD 0 0) true h16 hp3) ?_
          rintro _ w17 ⟨G4, p4, hl4, rfl, hp4, h17⟩
          refine ⟨_, rfl, ?_⟩
          refine WL.v (Runs.assign rfl) rfl ?_
          refine WL.nil ?_
          refine WN.thn ?_
          refine WC.seq ?_
          by_cases hst : (t.vote (t.missing.getD 0 0) true).2.state = 0
          · skip
            refine WC.reg ?_
            refine WL.v (Runs.move rfl) rfl ?_
            refine WL.v (Runs.boolT (c := false) (Runs.neq rfl rfl) (by rw [decide_eq_true hstep.2.1]; rfl)) rfl ?_
            refine WL.v (Runs.move rfl) rfl ?_
            refine WL.gon rfl rfl rfl ?_
            refine WL.v (Runs.move rfl) rfl ?_
            refine WL.gon rfl rfl rfl ?_
            refine WL.call can13 rfl rfl (tstate_t _ h17 hp4) ?_
            rintro _ w18 ⟨rfl, h18⟩
            refine ⟨_, rfl, ?_⟩
            refine WL.gon rfl rfl rfl ?_
            refine WL.v (Runs.move rfl) rfl ?_
            refine WL.gon rfl rfl rfl ?_
            refine WL.v (Runs.boolT (c := true) (Runs.eql rfl rfl) (decide_eq_true (by rw [hst, hs]))) rfl ?_
            refine WL.gon rfl rfl rfl ?_
            refine WL.v (Runs.move rfl) rfl ?_
            refine WL.gon rfl rfl rfl ?_
            refine WL.v (Runs.move rfl) rfl ?_
            refine WL.gon rfl rfl rfl ?_
            refine WL.call can18 rfl rfl (tmiss_t _ h18 hp4) ?_
            rintro _ w19 ⟨G20, A20, cap20, hle20, rfl, hc20, hrd20, h19⟩
            refine ⟨_, rfl, ?_⟩
            refine WL.gon rfl rfl rfl ?_
            refine WL.v (Runs.llen Try.underlying22 rfl rfl) rfl ?_
            refine WL.gon rfl rfl rfl ?_
            refine WL.v (Runs.move rfl) rfl ?_
            refine WL.gon rfl rfl rfl ?_
            refine WL.v (Runs.llen Try.underlying22 rfl rfl) rfl ?_
            refine WL.gon rfl rfl rfl ?_
            refine WL.v (Runs.subn rfl rfl (by omega)) rfl ?_
            refine WL.gon rfl rfl rfl ?_
            refine WL.v (Runs.boolT (c := false) (Runs.neq rfl rfl) (by rw [decide_eq_true (by have := hstep.2.2.1 hst; omega)]; rfl)) rfl ?_
            refine WL.gon rfl rfl rfl ?_
            refine WL.v (Runs.pick rfl rfl rfl) rfl ?_
            refine WL.v (Runs.pick rfl rfl rfl) rfl ?_
            refine WL.nil ?_
            refine WN.thn ?_
            refine WC.condF rfl (rfl) ?_
            refine WC.skip ?_
            refine WN.blk ?_
            refine WN.again (⟨_, _, _⟩ : Snap × List Res × T) ?_ ⟨rfl, trivial⟩ ⟨Le.trans hG (Le.trans hle14 (Le.trans (Le.trans hl3 hl4) hle20)), (hp4.mono hle20), h19⟩
            exact hstep.2.2.2
          · skip
            refine WC.reg ?_
            refine WL.v (Runs.move rfl) rfl ?_
            refine WL.v (Runs.boolT (c := false) (Runs.neq rfl rfl) (by rw [decide_eq_true hstep.2.1]; rfl)) rfl ?_
            refine WL.v (Runs.move rfl) rfl ?_
            refine WL.gon rfl rfl rfl ?_
            refine WL.v (Runs.move rfl) rfl ?_
            refine WL.gon rfl rfl rfl ?_
            refine WL.call can13 rfl rfl (tstate_t _ h17 hp4) ?_
            rintro _ w21 ⟨rfl, h21⟩
            refine ⟨_, rfl, ?_⟩
            refine WL.gon rfl rfl rfl ?_
            refine WL.v (Runs.move rfl) rfl ?_
            refine WL.gon rfl rfl rfl ?_
            refine WL.v (Runs.boolT (c := false) (Runs.eql rfl rfl) (decide_eq_false (by rw [hs]; exact hst))) rfl ?_
            refine WL.gon rfl rfl rfl ?_
            refine WL.v (Runs.move rfl) rfl ?_
            refine WL.goff rfl rfl rfl rfl ?_
            refine WL.goff rfl rfl rfl rfl ?_
            refine WL.goff rfl rfl rfl rfl ?_
            refine WL.goff rfl rfl rfl rfl ?_
            refine WL.goff rfl rfl rfl rfl ?_
            refine WL.goff rfl rfl rfl rfl ?_
            refine WL.goff rfl rfl rfl rfl ?_
            refine WL.gon rfl rfl rfl ?_
            refine WL.v (Runs.pick rfl rfl rfl) rfl ?_
            refine WL.v (Runs.pick rfl rfl rfl) rfl ?_
            refine WL.nil ?_
            refine WN.thn ?_
            refine WC.condF rfl (rfl) ?_
            refine WC.skip ?_
            refine WN.blk ?_
            refine WN.again (⟨_, _, _⟩ : Snap × List Res × T) ?_ ⟨rfl, trivial⟩ ⟨Le.trans hG (Le.trans hle14 (Le.trans hl3 hl4)), hp4, h21⟩
            exact hstep.2.2.2
        · have hstep := step1 hs hnd
          refine WC.reg ?_
          refine WL.v (Runs.move rfl) rfl ?_
          refine WL.call can13 rfl rfl (tstate_t _ hL hp) ?_
          rintro _ w22 ⟨rfl, h22⟩
          refine ⟨_, rfl, ?_⟩
          refine WL.v (Runs.boolT (c := false) (Runs.eql rfl rfl) (decide_eq_false (by rw [hs]; decide))) rfl ?_
          refine WL.v (Runs.move rfl) rfl ?_
          refine WL.gon rfl rfl rfl ?_
          refine WL.v (Runs.move rfl) rfl ?_
          refine WL.gon rfl rfl rfl ?_
          refine WL.call can13 rfl rfl (tstate_t _ h22 hp) ?_
          rintro _ w23 ⟨rfl, h23⟩
          refine ⟨_, rfl, ?_⟩
          refine WL.gon rfl rfl rfl ?_
          refine WL.v (Runs.boolT (c := true) (Runs.eql rfl rfl) (decide_eq_true hs)) rfl ?_
          refine WL.v (Runs.pick rfl rfl rfl) rfl ?_
          refine WL.nil ?_
          refine WN.thn ?_
          refine WC.condT rfl (rfl) ?_
          refine WC.skip ?_
          refine WN.thn ?_
          refine WC.block ?_
          refine WC.seq ?_
          refine WC.reg ?_
          refine WL.v (Runs.move rfl) rfl ?_
          refine WL.call can18 rfl rfl (tmiss_t _ h23 hp) ?_
          rintro _ w24 ⟨G25, A25, cap25, hle25, rfl, hc25, hrd25, h24⟩
          refine ⟨_, rfl, ?_⟩
          refine WL.v (Runs.assign rfl) rfl ?_
          refine WL.nil ?_
          refine WN.thn ?_
          refine WC.seq ?_
          refine WC.reg ?_
          refine WL.v (Runs.move rfl) rfl ?_
          refine WL.call can13 rfl rfl (tstate_t _ h24 (hp.mono hle25)) ?_
          rintro _ w26 ⟨rfl, h26⟩
          refine ⟨_, rfl, ?_⟩
          refine WL.v (Runs.assign rfl) rfl ?_
          refine WL.nil ?_
          refine WN.thn ?_
          refine WC.seq ?_
          refine WC.seq ?_
          refine WC.reg ?_
          refine WL.v (Runs.move rfl) rfl ?_
          refine WL.v (Runs.llen Try.underlying22 rfl rfl) rfl ?_
          refine WL.v (Runs.boolT (c := false) (Runs.eql rfl rfl) (decide_eq_false (by omega))) rfl ?_
          refine WL.nil ?_
          refine WN.thn ?_
          refine WC.condF rfl (rfl) ?_
          refine WC.skip ?_
          refine WN.thn ?_
          refine WC.seq ?_
          obtain ⟨al, rfl, hrl⟩ := rd1 hrd25 hstep.1
          refine WC.reg ?_
          refine WL.v (Runs.move rfl) rfl ?_
          refine WL.v (Runs.move rfl) rfl ?_
          refine WL.v (Runs.lidxN Try.underlying22 inf3 rfl rfl (n := 0) rfl (by omega)) rfl ?_
          refine WL.v (Runs.loadR (f := Vi) (0 : Int) h26 hrl (n := 0) (by omega) Try.underlying3 rfl rfl) rfl ?_
          refine WL.call can23 rfl rfl (texit_t _ (t.missing.getD 0 0) 0 h26 (hp.mono hle25)) ?_
          rintro _ w27 ⟨G3, p3, hl3, rfl, hp3, h27⟩
          refine ⟨_, rfl, ?_⟩
          refine WL.v (Runs.assign rfl) rfl ?_
          refine WL.nil ?_
          refine WN.thn ?_
          refine WC.seq ?_
          refine WC.seq ?_
          refine WC.reg ?_
          refine WL.v (Runs.move rfl) rfl ?_
          refine WL.v (Runs.boolT (c := false) (Runs.eql rfl rfl) (decide_eq_false (by rw [hs]; decide))) rfl ?_
          refine WL.nil ?_
          refine WN.thn ?_
          refine WC.condF rfl (rfl) ?_
          refine WC.skip ?_
          refine WN.thn ?_
          refine WC.seq ?_
          by_cases hst : (t.exit (t.missing.getD 0 0) 0).2.state = 1
          · skip
            refine WC.reg ?_
            refine WL.v (Runs.move rfl) rfl ?_
            refine WL.v (Runs.boolT (c := false) (Runs.neq rfl rfl) (by rw [decide_eq_true hstep.2.1]; rfl)) rfl ?_
            refine WL.v (Runs.move rfl) rfl ?_
            refine WL.gon rfl rfl rfl ?_
            refine WL.v (Runs.move rfl) rfl ?_
            refine WL.gon rfl rfl rfl ?_
            refine WL.call can13 rfl rfl (tstate_t _ h27 hp3) ?_
            rintro _ w28 ⟨rfl, h28⟩
            refine ⟨_, rfl, ?_⟩
            refine WL.gon rfl rfl rfl ?_
            refine WL.v (Runs.move rfl) rfl ?_
            refine WL.gon rfl rfl rfl ?_
            refine WL.v (Runs.boolT (c := true) (Runs.eql rfl rfl) (decide_eq_true (by rw [hst, hs]))) rfl ?_
            refine WL.gon rfl rfl rfl ?_
            refine WL.v (Runs.move rfl) rfl ?_
            refine WL.gon rfl rfl rfl ?_
            refine WL.v (Runs.move rfl) rfl ?_
            refine WL.gon rfl rfl rfl ?_
            refine WL.call can18 rfl rfl (tmiss_t _ h28 hp3) ?_
            rintro _ w29 ⟨G30, A30, cap30, hle30, rfl, hc30, hrd30, h29⟩
            refine ⟨_, rfl, ?_⟩
            refine WL.gon rfl rfl rfl ?_
            refine WL.v (Runs.llen Try.underlying22 rfl rfl) rfl ?_
            refine WL.gon rfl rfl rfl ?_
            refine WL.v (Runs.move rfl) rfl ?_
            refine WL.gon rfl rfl rfl ?_
            refine WL.v (Runs.llen Try.underlying22 rfl rfl) rfl ?_
            refine WL.gon rfl rfl rfl ?_
            refine WL.v (Runs.subn rfl rfl (by omega)) rfl ?_
            refine WL.gon rfl rfl rfl ?_
            refine WL.v (Runs.boolT (c := false) (Runs.neq rfl rfl) (by rw [decide_eq_true (by have := hstep.2.2.1 hst; omega)]; rfl)) rfl ?_
            refine WL.gon rfl rfl rfl ?_
            refine WL.v (Runs.pick rfl rfl rfl) rfl ?_
            refine WL.v (Runs.pick rfl rfl rfl) rfl ?_
            refine WL.nil ?_
            refine WN.thn ?_
            refine WC.condF rfl (rfl) ?_
            refine WC.skip ?_
            refine WN.blk ?_
            refine WN.again (⟨_, _, _⟩ : Snap × List Res × T) ?_ ⟨rfl, trivial⟩ ⟨Le.trans hG (Le.trans hle25 (Le.trans hl3 hle30)), (hp3.mono hle30), h29⟩
            exact hstep.2.2.2
          · skip
            refine WC.reg ?_
            refine WL.v (Runs.move rfl) rfl ?_
            refine WL.v (Runs.boolT (c := false) (Runs.neq rfl rfl) (by rw [decide_eq_true hstep.2.1]; rfl)) rfl ?_
            refine WL.v (Runs.move rfl) rfl ?_
            refine WL.gon rfl rfl rfl ?_
            refine WL.v (Runs.move rfl) rfl ?_
            refine WL.gon rfl rfl rfl ?_
            refine WL.call can13 rfl rfl (tstate_t _ h27 hp3) ?_
            rintro _ w31 ⟨rfl, h31⟩
            refine ⟨_, rfl, ?_⟩
            refine WL.gon rfl rfl rfl ?_
            refine WL.v (Runs.move rfl) rfl ?_
            refine WL.gon rfl rfl rfl ?_
            refine WL.v (Runs.boolT (c := false) (Runs.eql rfl rfl) (decide_eq_false (by rw [hs]; exact hst))) rfl ?_
            refine WL.gon rfl rfl rfl ?_
            refine WL.v (Runs.move rfl) rfl ?_
            refine WL.goff rfl rfl rfl rfl ?_
            refine WL.goff rfl rfl rfl rfl ?_
            refine WL.goff rfl rfl rfl rfl ?_
            refine WL.goff rfl rfl rfl rfl ?_
            refine WL.goff rfl rfl rfl rfl ?_
            refine WL.goff rfl rfl rfl rfl ?_
            refine WL.goff rfl rfl rfl rfl ?_
            refine WL.gon rfl rfl rfl ?_
            refine WL.v (Runs.pick rfl rfl rfl) rfl ?_
            refine WL.v (Runs.pick rfl rfl rfl) rfl ?_
            refine WL.nil ?_
            refine WN.thn ?_
            refine WC.condF rfl (rfl) ?_
            refine WC.skip ?_
            refine WN.blk ?_
            refine WN.again (⟨_, _, _⟩ : Snap × List Res × T) ?_ ⟨rfl, trivial⟩ ⟨Le.trans hG (Le.trans hle25 hl3), hp3, h31⟩
            exact hstep.2.2.2
        · have hme : t.missing = [] := by simp [T.missing, hs, hs1]
          refine WC.reg ?_
          refine WL.v (Runs.move rfl) rfl ?_
          refine WL.call can13 rfl rfl (tstate_t _ hL hp) ?_
          rintro _ w32 ⟨rfl, h32⟩
          refine ⟨_, rfl, ?_⟩
          refine WL.v (Runs.boolT (c := false) (Runs.eql rfl rfl) (decide_eq_false hs)) rfl ?_
          refine WL.v (Runs.move rfl) rfl ?_
          refine WL.gon rfl rfl rfl ?_
          refine WL.v (Runs.move rfl) rfl ?_
          refine WL.gon rfl rfl rfl ?_
          refine WL.call can13 rfl rfl (tstate_t _ h32 hp) ?_
          rintro _ w33 ⟨rfl, h33⟩
          refine ⟨_, rfl, ?_⟩
          refine WL.gon rfl rfl rfl ?_
          refine WL.v (Runs.boolT (c := false) (Runs.eql rfl rfl) (decide_eq_false hs1)) rfl ?_
          refine WL.v (Runs.pick rfl rfl rfl) rfl ?_
          refine WL.nil ?_
          refine WN.thn ?_
          refine WC.condF rfl (rfl) ?_
          refine WC.exit ?_
          refine WX.thn ?_
          refine WX.cut ?_
          refine WX.hit ?_
          refine WN.thn ?_
          refine WC.seq ?_
          refine WC.reg ?_
          refine WL.v (Runs.move rfl) rfl ?_
          refine WL.call can18 rfl rfl (tmiss_t _ h33 hp) ?_
          rintro _ w34 ⟨G35, A35, cap35, hle35, rfl, hc35, hrd35, h34⟩
          refine ⟨_, rfl, ?_⟩
          refine WL.v (Runs.llen Try.underlying22 rfl rfl) rfl ?_
          refine WL.v (Runs.boolT (c := true) (Runs.eql rfl rfl) (decide_eq_true (by rw [hme]; rfl))) rfl ?_
          refine WL.v (Runs.move rfl) rfl ?_
          refine WL.gon rfl rfl rfl ?_
          refine WL.call can9 rfl rfl (live_c _ h34) ?_
          rintro _ w36 ⟨rfl, h36⟩
          refine ⟨_, rfl, ?_⟩
          refine WL.v (Runs.pick rfl rfl rfl) rfl ?_
          refine WL.v (Runs.assign rfl) rfl ?_
          refine WL.nil ?_
          refine WN.thn ?_
          refine WC.ret ?_
          exact ret1 rfl rfl ⟨rfl, (St_tail h36).weak (Le.trans hG hle35)⟩
end Tal
end Go.Proofs.Ytkgmlngmojnpmaa
