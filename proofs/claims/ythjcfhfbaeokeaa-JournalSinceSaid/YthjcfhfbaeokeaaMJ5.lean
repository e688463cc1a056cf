/- Walks of package journal: records, one by one. -/
import Derived.Test.YthjcfhfbaeokeaaMBaseAE
import Derived.Test.YthjcfhfbaeokeaaMJ4
namespace Go.Proofs.Ythjcfhfbaeokeaa
open Go Go.RowKit B
set_option linter.unusedVariables false
set_option linter.unusedSimpArgs false
namespace Jo
open Wir (Vi textB numB rdT rdEnd wtext_c)

theorem can41 : B.Can Try.prog 41 := ⟨_, Try.func41, by kernel_rfl, rfl⟩   -- roundhouse/journal.first
abbrev Ent := Int × List UInt8
/-- the records from a place on -/
def recsM (log : List UInt8) : Nat → Nat → List Ent → List Ent × Nat
  | 0, q, out => (out, q)
  | n + 1, q, out => if q < log.length then (match firstM (log.drop q) with
    | none => (out, q)
    | some x => recsM log n (q + (recB x.1 x.2).length) (out ++ [x])) else (out, q)
def readM (log : List UInt8) : List Ent × Nat := recsM log log.length 0 []
theorem recsM_end {log : List UInt8} {n q : Nat} {out : List Ent} (h : log.length ≤ q) : recsM log n q out = (out, q) := by
  cases n with
  | zero => rfl
  | succ n => rw [recsM, if_neg (by omega)]
theorem recsM_none {log : List UInt8} {n q : Nat} {out : List Ent} (h : firstM (log.drop q) = none) : recsM log n q out = (out, q) := by
  cases n with
  | zero => rfl
  | succ n =>
    rw [recsM]
    split
    · rw [h]
    · rfl
theorem first_pos {s : List UInt8} {x : Ent} (h : firstM s = some x) : okR x.1 x.2 ∧ s.take (recB x.1 x.2).length = recB x.1 x.2 ∧ (recB x.1 x.2).length ≤ s.length := by
  unfold firstM at h
  split at h
  · rename_i hh
    injection h with h
    subst h
    refine ⟨⟨Decidable.of_not_not hh.1.2.2, ?_⟩, hh.2.2.2, Nat.le_of_not_lt hh.2.2.1⟩
    have h2 := hh.2.1
    show ((rdT (s.drop 2) 0 0).1).length ≤ 4096
    unfold rdT
    split
    · exact Nat.zero_le _
    · split
      · exact Nat.zero_le _
      · rename_i h3
        split
        · exact Nat.zero_le _
        · have h4 := (Wir.cerr_0 (Classical.byContradiction fun h5 => h3 h5)).2
          simp only [List.length_take]
          omega
  · cases h
theorem recB_pos {k : Int} {s : List UInt8} (h : okR k s) : 0 < (recB k s).length := by
  rw [recB_y h, List.length_append, hdB, List.length_cons]
  omega
theorem recsM_some {log : List UInt8} {n q : Nat} {out : List Ent} {x : Ent} (hf : log.length ≤ q + n) (hq : q < log.length) (h : firstM (log.drop q) = some x) : 0 < n ∧ recsM log n q out = recsM log (n - 1) (q + (recB x.1 x.2).length) (out ++ [x]) := by
  obtain ⟨n, rfl⟩ : ∃ m, n = m + 1 := ⟨n - 1, by omega⟩
  rw [recsM, if_pos hq, h]
  exact ⟨by omega, rfl⟩
abbrev entA (x : Ent) : Value := .agg #[Vi x.1, .string (bs x.2)]
set_option maxRecDepth 100000 in
set_option maxHeartbeats 1000000 in
theorem records_c {W : World} {F : Snap} {cs : List Res} (w : World) (l : List UInt8) (h : St W F cs w) : Calls Try.prog 32 #[.string (bs l)] w fun r w' => ∃ b, r = .returned (.func (.func 40) #[] #[.pointer (some ⟨b, 0, none⟩)]) ∧ St W F ([(b, .cells #[.string (bs l)] 9 (0, 0))] :: cs) w'  := by
  refine enter (P := Try.prog) (args := [.string (bs l)]) Try.func32 rfl rfl rfl ?_
  refine WC.seq ?_
  refine WC.reg ?_
  refine WL.box rfl h rfl ?_
  intro b1 w1 h1
  refine WL.v (Runs.assign rfl) rfl ?_
  refine WL.nil ?_
  refine WN.thn ?_
  refine WC.seq ?_
  refine WC.reg ?_
  refine WL.v (Runs.makeFunc (us := []) (vs := [.pointer (some ⟨b1, 0, none⟩)]) rfl rfl) rfl ?_
  refine WL.v (Runs.assign rfl) rfl ?_
  refine WL.nil ?_
  refine WN.thn ?_
  refine WC.ret ?_
  exact ret1 rfl rfl ⟨b1, rfl, h1⟩
set_option maxRecDepth 100000 in
set_option maxHeartbeats 4000000 in
theorem recs_c {W : World} {G0 : Snap} {cs0 : List Res} (w : World) {y tb : Nat} {log : List UInt8} (K : List Ent → Nat → Snap → List Res → Prop) (hl : log.length ≤ 100000)
    (hbox : ∀ out q G cs, K out q G cs → cellF G ⟨tb, 0, none⟩ = some (.string (bs log)))
    (hY : ∀ out q x G cs w, K out q G cs → firstM (log.drop q) = some x → q < log.length → St W G cs w → YieldAt Fence.wide 1 Try.prog y #[entA x, Vi (q + (recB x.1 x.2).length : Nat)] w fun e w' => e = .returned (.bool true) ∧ ∃ G' cs', K (out ++ [x]) (q + (recB x.1 x.2).length) G' cs' ∧ St W G' cs' w')
    (h0 : K [] 0 G0 cs0) (h : St W G0 cs0 w) : Calls Try.prog 40 #[.func (.yield y) #[] #[], .pointer (some ⟨tb, 0, none⟩)] w fun e w' => (∃ v, e = .returned v) ∧ ∃ G cs, K (readM log).1 (readM log).2 G cs ∧ St W G cs w'  := by
  refine enter (P := Try.prog) (args := [.func (.yield y) #[] #[], .pointer (some ⟨tb, 0, none⟩)]) Try.func40 rfl rfl rfl ?_
  refine WC.scope (fun _ _ _ h_ => h_) ?_
  refine WC.seq ?_
  refine WC.reg ?_
  refine WL.v (Runs.assign rfl) rfl ?_
  refine WL.nil ?_
  refine WN.thn ?_
  refine WC.seq ?_
  refine WC.label ?_
  refine WN.thn ?_
  refine WC.block ?_
  refine WC.loop (σ := Nat × Nat × List Ent × Snap × List Res) (fun q_ => [(0, .func (.yield y) #[] #[]), (1, .pointer (some ⟨tb, 0, none⟩)), (3, .int .i64 (q_.2.1 : Int))]) (fun q_ w => readM log = recsM log q_.1 q_.2.1 q_.2.2.1 ∧ log.length ≤ q_.2.1 + q_.1 ∧ q_.2.1 ≤ log.length ∧ K q_.2.2.1 q_.2.1 q_.2.2.2.1 q_.2.2.2.2 ∧ St W q_.2.2.2.1 q_.2.2.2.2 w) (fun q_ => q_.1) (⟨log.length, 0, [], G0, cs0⟩) (by repeat (first | exact trivial | refine ⟨rfl, ?_⟩)) (⟨rfl, by omega, Nat.zero_le _, h0, h⟩) ?_
  rintro ⟨n, q, out, G, cs2⟩ w1 ⟨hrd, hn, hq, hK, hL⟩
  try dsimp only at hrd hn hq hK hL
  refine WC.sub (s := [(0, .func (.yield y) #[] #[]), (1, .pointer (some ⟨tb, 0, none⟩)), (3, .int .i64 (q : Int))]) (by repeat (first | exact trivial | refine ⟨rfl, ?_⟩)) ?_
  refine WC.seq ?_
  refine WC.seq ?_
  refine WC.reg ?_
  refine WL.v (Runs.move rfl) rfl ?_
  refine WL.v (Runs.load1 Try.underlying9 rfl rfl (hL.cell (hbox _ _ _ _ hK))) rfl ?_
  refine WL.v (Runs.intT (n := (log.length : Int)) (Runs.slen Try.underlying9 rfl rfl) rfl) rfl ?_
  refine WL.v (Runs.lss rfl rfl) rfl ?_
  refine WL.nil ?_
  refine WN.thn ?_
  refine WC.cond rfl (fun c2 => ?_) (fun c2 => ?_)
  · try simp only [decide_eq_true_eq, decide_eq_false_iff_not, Bool.not_eq_true', Bool.not_eq_false', Bool.and_eq_true, Int.not_lt, Int.not_le] at c2
    first
    | (exfalso; omega)
    | skip
      refine WC.skip ?_
      refine WN.thn ?_
      refine WC.block ?_
      refine WC.seq ?_
      rcases hfm : firstM (log.drop q) with _ | x
      · skip
        refine WC.reg ?_
        refine WL.v (Runs.load1 Try.underlying9 rfl rfl (hL.cell (hbox _ _ _ _ hK))) rfl ?_
        refine WL.v (Runs.move rfl) rfl ?_
        refine WL.v (Runs.valT (u := .string (bs (log.drop q))) (Runs.lssl_lo Try.underlying9 rfl rfl (n := q) rfl (by omega)) rfl) rfl ?_
        refine WL.call can41 rfl rfl ((show Calls _ _ _ _ (fun r w' => r = .returned (.tuple #[entV none, Vi ((0 : Nat) : Int)]) ∧ _) from hfm ▸ first_c _ (log.drop q) hL (by rw [List.length_drop]; omega))) ?_
        rintro _ w3 ⟨rfl, h3⟩
        refine ⟨_, rfl, ?_⟩
        refine WL.v (Runs.move rfl) rfl ?_
        refine WL.v (Runs.extract rfl rfl) rfl ?_
        refine WL.v (Runs.extract rfl rfl) rfl ?_
        refine WL.alloc' rfl h3 inf50 ?_
        intro b4 w4 h4
        refine WL.storeAll h4 0 rfl rfl rfl inf50 rfl rfl rfl (Free.zero _) ?_
        intro  w5 h5
        try simp only [List.set_cons_zero, List.set_cons_succ, List.eraseIdx_cons_zero, List.eraseIdx_cons_succ] at h5
        refine WL.v (Runs.assign rfl) rfl ?_
        refine WL.nil ?_
        refine WN.thn ?_
        refine WC.seq ?_
        refine WC.seq ?_
        refine WC.reg ?_
        refine WL.v (Runs.move rfl) rfl ?_
        refine WL.v (Runs.eql rfl rfl) rfl ?_
        refine WL.nil ?_
        refine WN.thn ?_
        refine WC.condT rfl (rfl) ?_
        refine WC.exit ?_
        refine WX.thn ?_
        refine WX.miss rfl ?_
        refine WX.cut ?_
        refine WX.hit ?_
        have e9 : readM log = (out, q) := hrd.trans (recsM_none hfm)
        exact end0 rfl ⟨⟨_, rfl⟩, G, cs2, by rw [e9]; exact hK, h5.drop 0⟩
      · have hpos := first_pos hfm
        have hp1 := recB_pos hpos.1
        have hst := recsM_some (out := out) hn (by omega) hfm
        refine WC.reg ?_
        refine WL.v (Runs.load1 Try.underlying9 rfl rfl (hL.cell (hbox _ _ _ _ hK))) rfl ?_
        refine WL.v (Runs.move rfl) rfl ?_
        refine WL.v (Runs.valT (u := .string (bs (log.drop q))) (Runs.lssl_lo Try.underlying9 rfl rfl (n := q) rfl (by omega)) rfl) rfl ?_
        refine WL.call can41 rfl rfl ((show Calls _ _ _ _ (fun r w' => r = .returned (.tuple #[entA x, Vi ((recB x.1 x.2).length : Nat)]) ∧ _) from hfm ▸ first_c _ (log.drop q) hL (by rw [List.length_drop]; omega))) ?_
        rintro _ w6 ⟨rfl, h6⟩
        refine ⟨_, rfl, ?_⟩
        refine WL.v (Runs.move rfl) rfl ?_
        refine WL.v (Runs.extract rfl rfl) rfl ?_
        refine WL.v (Runs.extract rfl rfl) rfl ?_
        refine WL.alloc' rfl h6 inf50 ?_
        intro b4 w7 h7
        refine WL.storeAll h7 0 rfl rfl rfl inf50 rfl rfl rfl (Free.zero _) ?_
        intro  w8 h8
        try simp only [List.set_cons_zero, List.set_cons_succ, List.eraseIdx_cons_zero, List.eraseIdx_cons_succ] at h8
        refine WL.v (Runs.assign rfl) rfl ?_
        refine WL.nil ?_
        refine WN.thn ?_
        refine WC.seq ?_
        refine WC.seq ?_
        refine WC.reg ?_
        refine WL.v (Runs.move rfl) rfl ?_
        refine WL.v (Runs.boolT (c := false) (Runs.eql rfl rfl) (by rw [decide_eq_false_iff_not]; omega)) rfl ?_
        refine WL.nil ?_
        refine WN.thn ?_
        refine WC.condF rfl (rfl) ?_
        refine WC.skip ?_
        refine WN.thn ?_
        refine WC.seq ?_
        refine WC.reg ?_
        refine WL.v (Runs.move rfl) rfl ?_
        refine WL.v (Runs.move rfl) rfl ?_
        refine WL.v (Runs.intT (n := ((q + (recB x.1 x.2).length : Nat) : Int)) (Runs.addn rfl rfl (by have := recB_len (k := x.1) (s := x.2); omega)) (by omega)) rfl ?_
        refine WL.v (Runs.assign rfl) rfl ?_
        refine WL.nil ?_
        refine WN.thn ?_
        refine WC.seq ?_
        refine WC.regI ?_
        refine WI.v (Runs.move rfl) rfl ?_
        refine WI.v (Runs.loadAll h8 0 rfl Try.underlying50 rfl inf50 rfl rfl) rfl ?_
        refine WI.v (Runs.move rfl) rfl ?_
        refine WI.yield rfl rfl rfl (hY out q x G cs2 w8 hK hfm (by omega) (h8.drop 0)) rfl ?_
        rintro _ wy ⟨rfl, G2, cs3, hK2, hS2⟩
        refine ⟨_, rfl, ?_⟩
        refine WI.v (Runs.not rfl) rfl ?_
        refine WI.nil ?_
        refine WN.thn ?_
        refine WC.condF rfl (rfl) ?_
        refine WC.skip ?_
        refine WN.blk ?_
        have hlen2 : (recB x.1 x.2).length ≤ log.length - q := by have := hpos.2.2; rwa [List.length_drop] at this
        exact WN.again (⟨n - 1, q + (recB x.1 x.2).length, out ++ [x], G2, cs3⟩ : Nat × Nat × List Ent × Snap × List Res) (by show n - 1 < n; omega) ⟨rfl, rfl, rfl, trivial⟩ ⟨hrd.trans hst.2, by show log.length ≤ q + (recB x.1 x.2).length + (n - 1); omega, by show q + (recB x.1 x.2).length ≤ log.length; omega, hK2, hS2⟩
  · try simp only [decide_eq_true_eq, decide_eq_false_iff_not, Bool.not_eq_true', Bool.not_eq_false', Bool.and_eq_true, Int.not_lt, Int.not_le] at c2
    first
    | (exfalso; omega)
    | skip
      refine WC.exit ?_
      refine WX.thn ?_
      refine WX.cut ?_
      refine WX.hit ?_
      have e9 : readM log = (out, q) := hrd.trans (recsM_end (by omega))
      exact end0 rfl ⟨⟨_, rfl⟩, G, cs2, by rw [e9]; exact hK, hL⟩
end Jo
end Go.Proofs.Ythjcfhfbaeokeaa
