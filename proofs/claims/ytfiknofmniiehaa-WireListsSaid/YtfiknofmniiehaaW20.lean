/- The law WireReads: both readers give the same, ask by ask. -/
import Derived.Test.YtfiknofmniiehaaW19
namespace Go.Proofs.Ytfiknofmniiehaa
open Go Go.RowKit B
set_option linter.unusedVariables false
set_option linter.unusedSimpArgs false
namespace Wir

theorem can25 : B.Can Try.prog 25 := ⟨_, Try.func25, by kernel_rfl, rfl⟩   -- roundhouse/roundhouseref02.Same
theorem can26 : B.Can Try.prog 26 := ⟨_, Try.func26, by kernel_rfl, rfl⟩   -- (*roundhouse/wire.Reader).List
theorem can27 : B.Can Try.prog 27 := ⟨_, Try.func27, by kernel_rfl, rfl⟩   -- (*roundhouse/roundhouseref02.Reader).List
theorem wn_c {W : World} {F : Snap} {cs : List Res} (w : World) {i rb : Nat} {p : Nat} {l : List UInt8} {e : Int} (h : St W F cs w) (hi : cs[i]? = some [(rb, .cells #[.string (bs l), Vi p, Vi e] 61 (0, 0))]) (hl : l.length ≤ 100000) (hp : p ≤ l.length) : Calls Try.prog 21 #[.pointer (some ⟨rb, 0, none⟩)] w fun r w' => r = .returned (Vi ((rdN l p e).1 : Nat)) ∧ St W F (cs.set i [(rb, .cells #[.string (bs l), Vi ((rdN l p e).2.1 : Nat), Vi (rdN l p e).2.2] 61 (0, 0))]) w'  := by
  by_cases he : e = 0
  · subst he; exact readN_on w h hi hl hp
  · have e1 : rdN l p e = (0, p, e) := by unfold rdN; rw [if_pos he]
    rw [e1]
    refine (readN_off w h hi he).mono fun r w' ⟨h1, h2⟩ => ⟨h1, ?_⟩
    rw [setS hi]; exact h2
theorem wt_c {W : World} {F : Snap} {cs : List Res} (w : World) {i rb : Nat} {p : Nat} {l : List UInt8} {e : Int} (h : St W F cs w) (hi : cs[i]? = some [(rb, .cells #[.string (bs l), Vi p, Vi e] 61 (0, 0))]) (hl : l.length ≤ 100000) (hp : p ≤ l.length) : Calls Try.prog 23 #[.pointer (some ⟨rb, 0, none⟩)] w fun r w' => r = .returned (.string (bs (rdT l p e).1)) ∧ St W F (cs.set i [(rb, .cells #[.string (bs l), Vi ((rdT l p e).2.1 : Nat), Vi (rdT l p e).2.2] 61 (0, 0))]) w'  := by
  by_cases he : e = 0
  · subst he; exact readT_on w h hi hl hp
  · have e1 : rdT l p e = ([], p, e) := by unfold rdT; rw [if_pos he]
    rw [e1]
    refine (readT_off w h hi he).mono fun r w' ⟨h1, h2⟩ => ⟨h1, ?_⟩
    rw [setS hi]; exact h2
theorem wl_c {W : World} {F : Snap} {cs : List Res} (w : World) {i rb : Nat} {p : Nat} {l : List UInt8} {e most : Int} (h : St W F cs w) (hi : cs[i]? = some [(rb, .cells #[.string (bs l), Vi p, Vi e] 61 (0, 0))]) (hl : l.length ≤ 100000) (hp : p ≤ l.length) : Calls Try.prog 26 #[.pointer (some ⟨rb, 0, none⟩), Vi most] w fun r w' => Gives W F (cs.set i [(rb, .cells #[.string (bs l), Vi ((rdL l p e most).2.1 : Nat), Vi (rdL l p e most).2.2] 61 (0, 0))]) Vi (rdL l p e most).1 r w' := by
  by_cases he : e = 0
  · subst he; exact (listL_on w h hi hl hp).mono fun r w' ⟨rr, v, h1, h2, h3⟩ => by rw [h1]; exact Row.gives h2 h3
  · have e1 : rdL l p e most = ([], p, e) := by unfold rdL; rw [if_pos he]
    rw [e1]
    refine (listL_off w h hi he).mono fun r w' ⟨h1, h2⟩ => ?_
    rw [setS hi, h1]
    exact Row.gives (Row.nil 3 Vi) h2.nilRes
theorem ql_c {W : World} {F : Snap} {cs : List Res} (w : World) {i rb : Nat} {p : Nat} {l : List UInt8} {e most : Int} (h : St W F cs w) (hi : cs[i]? = some [(rb, .cells #[.string (bs l), Vi p, Vi e] 40 (0, 0))]) (hl : l.length ≤ 100000) (hp : p ≤ l.length) : Calls Try.prog 27 #[.pointer (some ⟨rb, 0, none⟩), Vi most] w fun r w' => Gives W F (cs.set i [(rb, .cells #[.string (bs l), Vi ((rdL l p e most).2.1 : Nat), Vi (rdL l p e most).2.2] 40 (0, 0))]) Vi (rdL l p e most).1 r w' :=
  (qlist_c w h hi hl hp).mono fun r w' ⟨rr, v, h1, h2, h3⟩ => by rw [h1]; exact Row.gives h2 h3
theorem rdL_len {l : List UInt8} {p : Nat} {e m : Int} (hp : p ≤ l.length) : (rdL l p e m).1.length ≤ l.length := by
  have H : ∀ (n q : Nat) (acc : List Int), acc.length ≤ q → q ≤ l.length → (rdn l n q acc).1.length ≤ l.length := by
    intro n
    induction n with
    | zero => intro q acc h1 h2; show acc.length ≤ _; omega
    | succ n ih =>
      intro q acc h1 h2
      rw [rdn]
      split
      · rename_i h3; exact ih _ _ (by rw [List.length_append]; show acc.length + 1 ≤ _; unfold rnx; omega) (rnx_le h3)
      · exact Nat.zero_le _
  unfold rdL
  split
  · exact Nat.zero_le _
  · split
    · exact Nat.zero_le _
    · rename_i h; exact H _ _ _ (Nat.zero_le _) (rnx_le (cerr_0 (Classical.byContradiction fun hh => h hh)).1)
set_option maxRecDepth 100000 in
set_option maxHeartbeats 8000000 in
theorem reads_law {W : World} {F : Snap} {cs : List Res} (w : World) (l : List UInt8) {A : Option Addr} {cap : Nat} {xs : List Int} (h : St W F cs w) (hR : RdS (Kd.one Vi) F A xs) : Calls Try.prog 6 #[.string (bs l), .slice A xs.length cap] w fun r w' => r = .returned (.bool true) ∧ St W F cs w'  := by
  refine enter (P := Try.prog) (args := [.string (bs l), .slice A xs.length cap]) Try.func6 rfl rfl rfl ?_
  refine WC.seq ?_
  refine WC.reg ?_
  refine WL.v (Runs.assign rfl) rfl ?_
  refine WL.nil ?_
  refine WN.thn ?_
  refine WC.seq ?_
  refine WC.seq ?_
  have hcase : 500 < l.length ∨ (l.length ≤ 500 ∧ 20 < xs.length) ∨ (l.length ≤ 500 ∧ xs.length ≤ 20) := by omega
  rcases hcase with hA | hB | hC
  · skip
    refine WC.reg ?_
    refine WL.v (Runs.move rfl) rfl ?_
    refine WL.v (Runs.intT (n := (l.length : Int)) (Runs.slen Try.underlying9 rfl rfl) rfl) rfl ?_
    refine WL.v (Runs.boolT (c := true) (Runs.gtr rfl rfl) (by rw [decide_eq_true_eq]; omega)) rfl ?_
    refine WL.v (Runs.move rfl) rfl ?_
    refine WL.goff rfl rfl rfl rfl ?_
    refine WL.goff rfl rfl rfl rfl ?_
    refine WL.goff rfl rfl rfl rfl ?_
    refine WL.v (Runs.pick rfl rfl rfl) rfl ?_
    refine WL.nil ?_
    refine WN.thn ?_
    refine WC.condT rfl (rfl) ?_
    refine WC.seq ?_
    refine WC.reg ?_
    refine WL.call can9 rfl rfl (live_c _ h) ?_
    rintro _ w1 ⟨rfl, h1⟩
    refine ⟨_, rfl, ?_⟩
    refine WL.v (Runs.assign rfl) rfl ?_
    refine WL.nil ?_
    refine WN.thn ?_
    refine WC.ret ?_
    exact ret1 rfl rfl ⟨rfl, h1⟩
  · skip
    refine WC.reg ?_
    refine WL.v (Runs.move rfl) rfl ?_
    refine WL.v (Runs.intT (n := (l.length : Int)) (Runs.slen Try.underlying9 rfl rfl) rfl) rfl ?_
    refine WL.v (Runs.boolT (c := false) (Runs.gtr rfl rfl) (by rw [decide_eq_false_iff_not]; omega)) rfl ?_
    refine WL.v (Runs.move rfl) rfl ?_
    refine WL.gon rfl rfl rfl ?_
    refine WL.v (Runs.move rfl) rfl ?_
    refine WL.gon rfl rfl rfl ?_
    refine WL.v (Runs.llen Try.underlying22 rfl rfl) rfl ?_
    refine WL.gon rfl rfl rfl ?_
    refine WL.v (Runs.boolT (c := true) (Runs.gtr rfl rfl) (by rw [decide_eq_true_eq]; omega)) rfl ?_
    refine WL.v (Runs.pick rfl rfl rfl) rfl ?_
    refine WL.nil ?_
    refine WN.thn ?_
    refine WC.condT rfl (rfl) ?_
    refine WC.seq ?_
    refine WC.reg ?_
    refine WL.call can9 rfl rfl (live_c _ h) ?_
    rintro _ w2 ⟨rfl, h2⟩
    refine ⟨_, rfl, ?_⟩
    refine WL.v (Runs.assign rfl) rfl ?_
    refine WL.nil ?_
    refine WN.thn ?_
    refine WC.ret ?_
    exact ret1 rfl rfl ⟨rfl, h2⟩
  · have hl : l.length ≤ 100000 := by omega
    refine WC.reg ?_
    refine WL.v (Runs.move rfl) rfl ?_
    refine WL.v (Runs.intT (n := (l.length : Int)) (Runs.slen Try.underlying9 rfl rfl) rfl) rfl ?_
    refine WL.v (Runs.boolT (c := false) (Runs.gtr rfl rfl) (by rw [decide_eq_false_iff_not]; omega)) rfl ?_
    refine WL.v (Runs.move rfl) rfl ?_
    refine WL.gon rfl rfl rfl ?_
    refine WL.v (Runs.move rfl) rfl ?_
    refine WL.gon rfl rfl rfl ?_
    refine WL.v (Runs.llen Try.underlying22 rfl rfl) rfl ?_
    refine WL.gon rfl rfl rfl ?_
    refine WL.v (Runs.boolT (c := false) (Runs.gtr rfl rfl) (by rw [decide_eq_false_iff_not]; omega)) rfl ?_
    refine WL.v (Runs.pick rfl rfl rfl) rfl ?_
    refine WL.nil ?_
    refine WN.thn ?_
    refine WC.condF rfl (rfl) ?_
    refine WC.skip ?_
    refine WN.thn ?_
    refine WC.seq ?_
    refine WC.reg ?_
    refine WL.v (Runs.move rfl) rfl ?_
    refine WL.call can20 rfl rfl (read_c _ l h) ?_
    rintro _ w3 ⟨rb, rfl, h3⟩
    refine ⟨_, rfl, ?_⟩
    refine WL.v (Runs.assign rfl) rfl ?_
    refine WL.nil ?_
    refine WN.thn ?_
    refine WC.seq ?_
    refine WC.reg ?_
    refine WL.v (Runs.move rfl) rfl ?_
    refine WL.v (Runs.build (vs := [(0, .string (bs l))]) (cells := #[.string (bs l), Vi 0, Vi 0]) rfl (by kernel_rfl)) rfl ?_
    refine WL.box rfl h3 rfl ?_
    intro b25 w4 h4
    refine WL.v (Runs.assign rfl) rfl ?_
    refine WL.nil ?_
    refine WN.thn ?_
    refine WC.seq ?_
    refine WC.seq ?_
    refine WC.reg ?_
    refine WL.v (Runs.move rfl) rfl ?_
    refine WL.v (Runs.boolT (c := false) (Runs.peql Try.underlying36 rfl rfl) rfl) rfl ?_
    refine WL.nil ?_
    refine WN.thn ?_
    refine WC.condF rfl (rfl) ?_
    refine WC.skip ?_
    refine WN.thn ?_
    refine WC.seq ?_
    refine WC.seq ?_
    refine WC.reg ?_
    refine WL.v (Runs.assign rfl) rfl ?_
    refine WL.nil ?_
    refine WN.thn ?_
    refine WC.block ?_
    refine WC.loop (σ := Nat × Nat × Int × Snap) (fun q_ => [(1, .slice A xs.length cap), (5, .pointer (some ⟨rb, 0, none⟩)), (6, .pointer (some ⟨b25, 0, none⟩)), (7, .int .i64 (q_.1 : Int))]) (fun q_ w => q_.1 ≤ xs.length ∧ q_.2.1 ≤ l.length ∧ Le F q_.2.2.2 ∧ St W q_.2.2.2 ([(b25, .cells #[.string (bs l), Vi (q_.2.1 : Nat), Vi q_.2.2.1] 40 (0, 0))] :: [(rb, .cells #[.string (bs l), Vi (q_.2.1 : Nat), Vi q_.2.2.1] 61 (0, 0))] :: cs) w) (fun q_ => xs.length - q_.1) (⟨0, 0, 0, F⟩) (by repeat (first | exact trivial | refine ⟨rfl, ?_⟩)) (⟨Nat.zero_le _, Nat.zero_le _, Le.refl _, h4⟩) ?_
    rintro ⟨i, p, e, G⟩ w5 ⟨hi, hp, hG, hL⟩
    try dsimp only at hi hp hG hL
    refine WC.sub (s := [(1, .slice A xs.length cap), (5, .pointer (some ⟨rb, 0, none⟩)), (6, .pointer (some ⟨b25, 0, none⟩)), (7, .int .i64 (i : Int))]) (by repeat (first | exact trivial | refine ⟨rfl, ?_⟩)) ?_
    refine WC.seq ?_
    refine WC.seq ?_
    refine WC.reg ?_
    refine WL.v (Runs.move rfl) rfl ?_
    refine WL.v (Runs.move rfl) rfl ?_
    refine WL.v (Runs.llen Try.underlying22 rfl rfl) rfl ?_
    refine WL.v (Runs.lss rfl rfl) rfl ?_
    refine WL.nil ?_
    refine WN.thn ?_
    refine WC.cond rfl (fun c6 => ?_) (fun c6 => ?_)
    · try simp only [decide_eq_true_eq, decide_eq_false_iff_not, Bool.not_eq_true', Bool.not_eq_false', Bool.and_eq_true, Int.not_lt, Int.not_le] at c6
      first
      | (exfalso; omega)
      | skip
        refine WC.skip ?_
        refine WN.thn ?_
        refine WC.seq ?_
        refine WC.block ?_
        refine WC.seq ?_
        refine WC.seq ?_
        obtain ⟨ad, rfl, hrd⟩ := rd1 hR (by omega)
        refine WC.reg ?_
        refine WL.v (Runs.move rfl) rfl ?_
        refine WL.v (Runs.move rfl) rfl ?_
        refine WL.v (Runs.lidxN Try.underlying22 inf3 rfl rfl (n := i) rfl (by omega)) rfl ?_
        refine WL.v (Runs.intT (n := xs.getD i 0) (Runs.loadR (f := Vi) (0 : Int) (hL.weak hG) hrd (n := i) (by omega) Try.underlying3 rfl rfl) rfl) rfl ?_
        refine WL.v (Runs.eql rfl rfl) rfl ?_
        refine WL.nil ?_
        refine WN.thn ?_
        refine WC.cond rfl (fun c7 => ?_) (fun c7 => ?_)
        · try simp only [decide_eq_true_eq, decide_eq_false_iff_not, Bool.not_eq_true', Bool.not_eq_false', Bool.and_eq_true, Int.not_lt, Int.not_le] at c7
          first
          | (exfalso; omega)
          | skip
            refine WC.seq ?_
            refine WC.reg ?_
            refine WL.v (Runs.move rfl) rfl ?_
            refine WL.call can21 rfl rfl (wn_c _ (p := p) (e := e) (i := 1) hL rfl hl hp) ?_
            rintro _ w8 ⟨rfl, h8⟩
            refine ⟨_, rfl, ?_⟩
            refine WL.v (Runs.move rfl) rfl ?_
            refine WL.call can22 rfl rfl (qnum_c _ (p := p) (e := e) (i := 0) h8 rfl hl hp) ?_
            rintro _ w9 ⟨rfl, h9⟩
            refine ⟨_, rfl, ?_⟩
            have hp1 := rdN_le (l := l) (p := p) e hp
            refine WL.v (Runs.boolT (c := false) (Runs.neq rfl rfl) (by simp)) rfl ?_
            refine WL.nil ?_
            refine WN.thn ?_
            refine WC.condF rfl (rfl) ?_
            refine WC.skip ?_
            refine WN.thn ?_
            refine WC.seq ?_
            refine WC.reg ?_
            refine WL.v (Runs.move rfl) rfl ?_
            refine WL.call can28 rfl rfl (rend_c _ (p := ((rdN l p e).2.1)) (e := ((rdN l p e).2.2)) (i := 1) h9 rfl) ?_
            rintro _ w10 ⟨rfl, h10⟩
            refine ⟨_, rfl, ?_⟩
            refine WL.v (Runs.move rfl) rfl ?_
            refine WL.v (Runs.extract rfl rfl) rfl ?_
            refine WL.v (Runs.extract rfl rfl) rfl ?_
            refine WL.v (Runs.assign rfl) rfl ?_
            refine WL.v (Runs.assign rfl) rfl ?_
            refine WL.nil ?_
            refine WN.thn ?_
            refine WC.seq ?_
            refine WC.reg ?_
            refine WL.v (Runs.move rfl) rfl ?_
            refine WL.call can29 rfl rfl (qend_c _ (p := ((rdN l p e).2.1)) (e := ((rdN l p e).2.2)) (i := 0) h10 rfl) ?_
            rintro _ w11 ⟨rfl, h11⟩
            refine ⟨_, rfl, ?_⟩
            refine WL.v (Runs.move rfl) rfl ?_
            refine WL.v (Runs.extract rfl rfl) rfl ?_
            refine WL.v (Runs.extract rfl rfl) rfl ?_
            refine WL.v (Runs.assign rfl) rfl ?_
            refine WL.v (Runs.assign rfl) rfl ?_
            refine WL.nil ?_
            refine WN.thn ?_
            refine WC.seq ?_
            refine WC.reg ?_
            refine WL.v (Runs.move rfl) rfl ?_
            refine WL.v (Runs.move rfl) rfl ?_
            refine WL.v (Runs.boolT (c := false) (Runs.neq rfl rfl) (by simp)) rfl ?_
            refine WL.v (Runs.move rfl) rfl ?_
            refine WL.gon rfl rfl rfl ?_
            refine WL.v (Runs.move rfl) rfl ?_
            refine WL.gon rfl rfl rfl ?_
            refine WL.v (Runs.move rfl) rfl ?_
            refine WL.gon rfl rfl rfl ?_
            refine WL.v (Runs.boolT (c := false) (Runs.neq rfl rfl) (by simp)) rfl ?_
            refine WL.v (Runs.pick rfl rfl rfl) rfl ?_
            refine WL.nil ?_
            refine WN.thn ?_
            refine WC.condF rfl (rfl) ?_
            refine WC.skip ?_
            refine WN.blk ?_
            refine WN.thn ?_
            refine WC.reg ?_
            refine WL.v (Runs.move rfl) rfl ?_
            refine WL.v (Runs.addn rfl rfl (by omega)) rfl ?_
            refine WL.v (Runs.assign rfl) rfl ?_
            refine WL.nil ?_
            exact WN.again (⟨i + 1, ((rdN l p e).2.1), ((rdN l p e).2.2), G⟩ : Nat × Nat × Int × Snap) (by show xs.length - (i + 1) < xs.length - i; omega) ⟨rfl, rfl, rfl, rfl, trivial⟩ ⟨by show i + 1 ≤ _; omega, hp1, hG, h11⟩
        · try simp only [decide_eq_true_eq, decide_eq_false_iff_not, Bool.not_eq_true', Bool.not_eq_false', Bool.and_eq_true, Int.not_lt, Int.not_le] at c7
          first
          | (exfalso; omega)
          | skip
            refine WC.seq ?_
            refine WC.reg ?_
            refine WL.v (Runs.move rfl) rfl ?_
            refine WL.v (Runs.move rfl) rfl ?_
            refine WL.v (Runs.lidxN Try.underlying22 inf3 rfl rfl (n := i) rfl (by omega)) rfl ?_
            refine WL.v (Runs.intT (n := xs.getD i 0) (Runs.loadR (f := Vi) (0 : Int) (hL.weak hG) hrd (n := i) (by omega) Try.underlying3 rfl rfl) rfl) rfl ?_
            refine WL.v (Runs.eql rfl rfl) rfl ?_
            refine WL.nil ?_
            refine WN.thn ?_
            refine WC.cond rfl (fun c12 => ?_) (fun c12 => ?_)
            · try simp only [decide_eq_true_eq, decide_eq_false_iff_not, Bool.not_eq_true', Bool.not_eq_false', Bool.and_eq_true, Int.not_lt, Int.not_le] at c12
              first
              | (exfalso; omega)
              | skip
                refine WC.seq ?_
                refine WC.reg ?_
                refine WL.v (Runs.move rfl) rfl ?_
                refine WL.call can23 rfl rfl (wt_c _ (p := p) (e := e) (i := 1) hL rfl hl hp) ?_
                rintro _ w13 ⟨rfl, h13⟩
                refine ⟨_, rfl, ?_⟩
                refine WL.v (Runs.move rfl) rfl ?_
                refine WL.call can24 rfl rfl (qtext_c _ (p := p) (e := e) (i := 0) h13 rfl hl hp) ?_
                rintro _ w14 ⟨rfl, h14⟩
                refine ⟨_, rfl, ?_⟩
                have hp1 := rdT_le (l := l) (p := p) e hp
                refine WL.v (Runs.boolT (c := false) (Runs.lsneq (a := (rdT l p e).1) (b := (rdT l p e).1) rfl rfl) (by simp)) rfl ?_
                refine WL.nil ?_
                refine WN.thn ?_
                refine WC.condF rfl (rfl) ?_
                refine WC.skip ?_
                refine WN.thn ?_
                refine WC.seq ?_
                refine WC.reg ?_
                refine WL.v (Runs.move rfl) rfl ?_
                refine WL.call can28 rfl rfl (rend_c _ (p := ((rdT l p e).2.1)) (e := ((rdT l p e).2.2)) (i := 1) h14 rfl) ?_
                rintro _ w15 ⟨rfl, h15⟩
                refine ⟨_, rfl, ?_⟩
                refine WL.v (Runs.move rfl) rfl ?_
                refine WL.v (Runs.extract rfl rfl) rfl ?_
                refine WL.v (Runs.extract rfl rfl) rfl ?_
                refine WL.v (Runs.assign rfl) rfl ?_
                refine WL.v (Runs.assign rfl) rfl ?_
                refine WL.nil ?_
                refine WN.thn ?_
                refine WC.seq ?_
                refine WC.reg ?_
                refine WL.v (Runs.move rfl) rfl ?_
                refine WL.call can29 rfl rfl (qend_c _ (p := ((rdT l p e).2.1)) (e := ((rdT l p e).2.2)) (i := 0) h15 rfl) ?_
                rintro _ w16 ⟨rfl, h16⟩
                refine ⟨_, rfl, ?_⟩
                refine WL.v (Runs.move rfl) rfl ?_
                refine WL.v (Runs.extract rfl rfl) rfl ?_
                refine WL.v (Runs.extract rfl rfl) rfl ?_
                refine WL.v (Runs.assign rfl) rfl ?_
                refine WL.v (Runs.assign rfl) rfl ?_
                refine WL.nil ?_
                refine WN.thn ?_
                refine WC.seq ?_
                refine WC.reg ?_
                refine WL.v (Runs.move rfl) rfl ?_
                refine WL.v (Runs.move rfl) rfl ?_
                refine WL.v (Runs.boolT (c := false) (Runs.neq rfl rfl) (by simp)) rfl ?_
                refine WL.v (Runs.move rfl) rfl ?_
                refine WL.gon rfl rfl rfl ?_
                refine WL.v (Runs.move rfl) rfl ?_
                refine WL.gon rfl rfl rfl ?_
                refine WL.v (Runs.move rfl) rfl ?_
                refine WL.gon rfl rfl rfl ?_
                refine WL.v (Runs.boolT (c := false) (Runs.neq rfl rfl) (by simp)) rfl ?_
                refine WL.v (Runs.pick rfl rfl rfl) rfl ?_
                refine WL.nil ?_
                refine WN.thn ?_
                refine WC.condF rfl (rfl) ?_
                refine WC.skip ?_
                refine WN.blk ?_
                refine WN.thn ?_
                refine WC.reg ?_
                refine WL.v (Runs.move rfl) rfl ?_
                refine WL.v (Runs.addn rfl rfl (by omega)) rfl ?_
                refine WL.v (Runs.assign rfl) rfl ?_
                refine WL.nil ?_
                exact WN.again (⟨i + 1, ((rdT l p e).2.1), ((rdT l p e).2.2), G⟩ : Nat × Nat × Int × Snap) (by show xs.length - (i + 1) < xs.length - i; omega) ⟨rfl, rfl, rfl, rfl, trivial⟩ ⟨by show i + 1 ≤ _; omega, hp1, hG, h16⟩
            · try simp only [decide_eq_true_eq, decide_eq_false_iff_not, Bool.not_eq_true', Bool.not_eq_false', Bool.and_eq_true, Int.not_lt, Int.not_le] at c12
              first
              | (exfalso; omega)
              | skip
                refine WC.seq ?_
                refine WC.eregF hL (fun s_ => ([] : List Nat).any (Nat.beq s_)) mixed (by kernel_rfl) (fun hx => ?_)
                intro w17 h17
                refine WE.pure (g := none) hx 0 (by rfl) trivial (by kernel_rfl) (by kernel_rfl) (by kernel_rfl) (by kernel_rfl) (fun w_ => Runs.move rfl) rfl ?_
                refine WE.pure (g := none) hx 1 (by rfl) trivial (by kernel_rfl) (by kernel_rfl) (by kernel_rfl) (by kernel_rfl) (fun w_ => Runs.move rfl) rfl ?_
                refine WE.pure (g := none) hx 2 (by rfl) trivial (by kernel_rfl) (by kernel_rfl) (by kernel_rfl) (by kernel_rfl) (fun w_ => Runs.move rfl) rfl ?_
                refine WE.pure (g := none) hx 3 (by rfl) trivial (by kernel_rfl) (by kernel_rfl) (by kernel_rfl) (by kernel_rfl) (fun w_ => Runs.lidxN Try.underlying22 inf3 rfl rfl (n := i) rfl (by omega)) rfl ?_
                refine WE.pure (g := none) hx 6 (by rfl) trivial (by kernel_rfl) (by kernel_rfl) (by kernel_rfl) (by kernel_rfl) (fun w_ => Runs.move rfl) rfl ?_
                refine WE.pure (g := none) hx 7 (by rfl) trivial (by kernel_rfl) (by kernel_rfl) (by kernel_rfl) (by kernel_rfl) (fun w_ => Runs.move rfl) rfl ?_
                refine WE.pure (g := none) hx 8 (by rfl) trivial (by kernel_rfl) (by kernel_rfl) (by kernel_rfl) (by kernel_rfl) (fun w_ => Runs.move rfl) rfl ?_
                refine WE.pure (g := none) hx 9 (by rfl) trivial (by kernel_rfl) (by kernel_rfl) (by kernel_rfl) (by kernel_rfl) (fun w_ => Runs.lidxN Try.underlying22 inf3 rfl rfl (n := i) rfl (by omega)) rfl ?_
                refine WE.val (g := none) 12 hx 4 (by rfl) trivial (by kernel_rfl) (by kernel_rfl) (by kernel_rfl) (by kernel_rfl) (fun w_ hE_ => Exists.elim hE_ (fun cs_ hC_ => Runs.intT (n := xs.getD i 0) (Runs.loadR (f := Vi) (0 : Int) (hC_.weak hG) hrd (n := i) (by omega) Try.underlying3 rfl rfl) rfl)) rfl ?_
                refine WE.val (g := none) 12 hx 10 (by rfl) trivial (by kernel_rfl) (by kernel_rfl) (by kernel_rfl) (by kernel_rfl) (fun w_ hE_ => Exists.elim hE_ (fun cs_ hC_ => Runs.intT (n := xs.getD i 0) (Runs.loadR (f := Vi) (0 : Int) (hC_.weak hG) hrd (n := i) (by omega) Try.underlying3 rfl rfl) rfl)) rfl ?_
                refine WE.op (.inr (EC.mk h17 (by first | exact Le.refl _ | assumption | exact Le.trans hG1 hG2))) (i := 5) (by rfl) (by kernel_rfl) ?_
                refine WL.call can26 rfl rfl (wl_c _ (p := p) (e := e) (i := 1) h17 rfl hl hp) ?_
                rintro _ w18 ⟨G1, A1, cap1, hG1, rfl, hc1, hR1, h18⟩
                refine ⟨_, rfl, ?_⟩
                refine WL.nil ?_
                refine WE.next ?_
                refine WE.op (.inr (EC.mk h18 (by first | exact Le.refl _ | assumption | exact Le.trans hG1 hG2))) (i := 11) (by rfl) (by kernel_rfl) ?_
                refine WL.call can27 rfl rfl (ql_c _ (p := p) (e := e) (i := 0) h18 rfl hl hp) ?_
                rintro _ w19 ⟨G2, A2, cap2, hG2, rfl, hc2, hR2, h19⟩
                refine ⟨_, rfl, ?_⟩
                have hp1 := rdL_le (l := l) (p := p) e (xs.getD i 0) hp
                have hn1 := rdL_len (l := l) (p := p) (e := e) (m := xs.getD i 0) hp
                refine WL.nil ?_
                refine WE.next ?_
                refine WE.op (.inr (EC.mk h19 (by first | exact Le.refl _ | assumption | exact Le.trans hG1 hG2))) (i := 12) (by rfl) (by kernel_rfl) ?_
                refine WL.call can25 rfl rfl (same_c _ h19 (hR1.mono hG2) hR2 (by omega)) ?_
                rintro _ w20 ⟨rfl, h20⟩
                refine ⟨_, rfl, ?_⟩
                refine WL.nil ?_
                refine WE.next ?_
                refine WE.pure (g := none) hx 13 (by rfl) trivial (by kernel_rfl) (by kernel_rfl) (by kernel_rfl) (by kernel_rfl) (fun w_ => Runs.boolT (c := false) (Runs.not rfl) rfl) rfl ?_
                refine WE.fin (.inr (EC.mk h20 (by first | exact Le.refl _ | assumption | exact Le.trans hG1 hG2))) (by kernel_rfl) ?_
                refine WN.thn ?_
                refine WC.condF rfl (rfl) ?_
                refine WC.skip ?_
                refine WN.thn ?_
                refine WC.seq ?_
                refine WC.reg ?_
                refine WL.v (Runs.move rfl) rfl ?_
                refine WL.call can28 rfl rfl (rend_c _ (p := ((rdL l p e (xs.getD i 0)).2.1)) (e := ((rdL l p e (xs.getD i 0)).2.2)) (i := 1) h20 rfl) ?_
                rintro _ w21 ⟨rfl, h21⟩
                refine ⟨_, rfl, ?_⟩
                refine WL.v (Runs.move rfl) rfl ?_
                refine WL.v (Runs.extract rfl rfl) rfl ?_
                refine WL.v (Runs.extract rfl rfl) rfl ?_
                refine WL.v (Runs.assign rfl) rfl ?_
                refine WL.v (Runs.assign rfl) rfl ?_
                refine WL.nil ?_
                refine WN.thn ?_
                refine WC.seq ?_
                refine WC.reg ?_
                refine WL.v (Runs.move rfl) rfl ?_
                refine WL.call can29 rfl rfl (qend_c _ (p := ((rdL l p e (xs.getD i 0)).2.1)) (e := ((rdL l p e (xs.getD i 0)).2.2)) (i := 0) h21 rfl) ?_
                rintro _ w22 ⟨rfl, h22⟩
                refine ⟨_, rfl, ?_⟩
                refine WL.v (Runs.move rfl) rfl ?_
                refine WL.v (Runs.extract rfl rfl) rfl ?_
                refine WL.v (Runs.extract rfl rfl) rfl ?_
                refine WL.v (Runs.assign rfl) rfl ?_
                refine WL.v (Runs.assign rfl) rfl ?_
                refine WL.nil ?_
                refine WN.thn ?_
                refine WC.seq ?_
                refine WC.reg ?_
                refine WL.v (Runs.move rfl) rfl ?_
                refine WL.v (Runs.move rfl) rfl ?_
                refine WL.v (Runs.boolT (c := false) (Runs.neq rfl rfl) (by simp)) rfl ?_
                refine WL.v (Runs.move rfl) rfl ?_
                refine WL.gon rfl rfl rfl ?_
                refine WL.v (Runs.move rfl) rfl ?_
                refine WL.gon rfl rfl rfl ?_
                refine WL.v (Runs.move rfl) rfl ?_
                refine WL.gon rfl rfl rfl ?_
                refine WL.v (Runs.boolT (c := false) (Runs.neq rfl rfl) (by simp)) rfl ?_
                refine WL.v (Runs.pick rfl rfl rfl) rfl ?_
                refine WL.nil ?_
                refine WN.thn ?_
                refine WC.condF rfl (rfl) ?_
                refine WC.skip ?_
                refine WN.blk ?_
                refine WN.thn ?_
                refine WC.reg ?_
                refine WL.v (Runs.move rfl) rfl ?_
                refine WL.v (Runs.addn rfl rfl (by omega)) rfl ?_
                refine WL.v (Runs.assign rfl) rfl ?_
                refine WL.nil ?_
                exact WN.again (⟨i + 1, ((rdL l p e (xs.getD i 0)).2.1), ((rdL l p e (xs.getD i 0)).2.2), G2⟩ : Nat × Nat × Int × Snap) (by show xs.length - (i + 1) < xs.length - i; omega) ⟨rfl, rfl, rfl, rfl, trivial⟩ ⟨by show i + 1 ≤ _; omega, hp1, Le.trans hG (Le.trans hG1 hG2), h22⟩
    · try simp only [decide_eq_true_eq, decide_eq_false_iff_not, Bool.not_eq_true', Bool.not_eq_false', Bool.and_eq_true, Int.not_lt, Int.not_le] at c6
      first
      | (exfalso; omega)
      | skip
        refine WC.exit ?_
        refine WX.thn ?_
        refine WX.cut ?_
        refine WX.hit ?_
        refine WN.thn ?_
        refine WC.seq ?_
        refine WC.reg ?_
        refine WL.call can9 rfl rfl (live_c _ hL) ?_
        rintro _ w23 ⟨rfl, h23⟩
        refine ⟨_, rfl, ?_⟩
        refine WL.v (Runs.assign rfl) rfl ?_
        refine WL.nil ?_
        refine WN.thn ?_
        refine WC.ret ?_
        exact ret1 rfl rfl ⟨rfl, ((h23.drop 0).drop 0).weak hG⟩
end Wir
end Go.Proofs.Ytfiknofmniiehaa
