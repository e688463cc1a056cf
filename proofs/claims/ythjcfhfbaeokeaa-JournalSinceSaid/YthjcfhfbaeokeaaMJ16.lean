/- The law JournalSince. -/
import Derived.Test.YthjcfhfbaeokeaaMJ15
namespace Go.Proofs.Ythjcfhfbaeokeaa
open Go Go.RowKit B
set_option linter.unusedVariables false
set_option linter.unusedSimpArgs false
namespace Jo
open Wir (Vi textB numB rdT rdEnd wtext_c)


theorem sinceCase (P Q : Prop) (n : Nat) : ¬ P ∨ (P ∧ ¬ Q) ∨ (P ∧ Q ∧ 100 < n) ∨ (P ∧ Q ∧ n ≤ 100) := by
  rcases tornCase P Q with h | h | h
  · exact .inl h
  · exact .inr (.inl h)
  · by_cases h2 : 100 < n
    · exact .inr (.inr (.inl ⟨h.1, h.2, h2⟩))
    · exact .inr (.inr (.inr ⟨h.1, h.2, by omega⟩))
theorem app_s {xs ks : List Ent} {s : List UInt8} {i : Nat} (hi : i < ks.length) (h0 : (ks.getD i (0, [])).1 = 0) (hok : okX (ks.getD i (0, []))) : appM (writeL (xs ++ (1, s) :: ks.take i)) 0 (ks.getD i (0, [])).2 = (writeL (xs ++ (1, s) :: ks.take (i + 1)), 0) := by
  have := app_w (l := writeL (xs ++ (1, s) :: ks.take i)) rfl hok
  rw [h0] at this
  rw [this, take_ent hi, List.append_assoc]
  rfl
theorem app_s1 {ks : List Ent} {s : List UInt8} {i : Nat} (hi : i < ks.length) (h0 : (ks.getD i (0, [])).1 = 0) (hok : okX (ks.getD i (0, []))) : appM (writeL ((1, s) :: ks.take i)) 0 (ks.getD i (0, [])).2 = (writeL ((1, s) :: ks.take (i + 1)), 0) := app_s (xs := []) hi h0 hok
theorem app_0 {xs : List Ent} {s : List UInt8} (ks : List Ent) (hs : s.length ≤ 100) : appM (writeL xs) 1 s = (writeL (xs ++ (1, s) :: ks.take 0), 0) := app_w (x := (1, s)) rfl ⟨.inr rfl, by show s.length ≤ 4096; omega⟩
theorem comp_0 {l s : List UInt8} (ks : List Ent) (hs : s.length ≤ 100) : compM l s = writeL ((1, s) :: ks.take 0) := by
  unfold compM
  rw [if_neg (by omega), writeL_cons]
  show _ = recB 1 s ++ []
  rw [List.append_nil]
theorem since_w {xs ks : List Ent} {s : List UInt8} (hx : ∀ x ∈ xs, okX x) (hk : ∀ x ∈ ks, okX x) (hs : s.length ≤ 100) (h0 : ∀ x ∈ ks, x.1 = 0) : sinceL (readM (writeL (xs ++ (1, s) :: ks))).1 = (1, s) :: ks := by
  rw [read_all (fun y hy => by
    rcases List.mem_append.1 hy with hy | hy
    · exact hx y hy
    · rcases List.mem_cons.1 hy with rfl | hy
      · exact ⟨.inr rfl, by show s.length ≤ 4096; omega⟩
      · exact hk y hy)]
  exact sinceL_zero (fun y hy => by rw [h0 y hy]; decide) s
theorem kinds_0 {ks : List Ent} (h : ∀ j, j < ks.length → (ks.getD j (0, [])).1 = 0) : ∀ x ∈ ks, x.1 = 0 := fun x hx => by
  obtain ⟨j, hj, rfl⟩ := List.getElem_of_mem hx
  have := h j hj
  rwa [List.getD_eq_getElem?_getD, List.getElem?_eq_getElem hj] at this
theorem writeL_small : ∀ {ys : List Ent}, (∀ y ∈ ys, okX y ∧ y.2.length ≤ 100) → (writeL ys).length ≤ 200 * ys.length
  | [], _ => Nat.le_refl _
  | y :: ys, h => by
    have h1 := writeL_small (fun z hz => h z (List.mem_cons_of_mem _ hz))
    have h2 := h y List.mem_cons_self
    have h3 := Wir.numB_len (y.2.length : Int)
    rw [writeL_cons, List.length_append, rec_len h2.1, List.length_cons]
    unfold textB
    rw [if_neg (by omega), List.length_append]
    omega
theorem small_all {xs ks : List Ent} {s : List UInt8} (hx : mayL xs) (hk : mayL ks) (hs : s.length ≤ 100) : (writeL (xs ++ (1, s) :: ks)).length ≤ 10000 := by
  have key : ∀ {zs : List Ent}, mayL zs → ∀ z ∈ zs, okX z ∧ z.2.length ≤ 100 := fun hz z hm => by
    obtain ⟨i, hi, rfl⟩ := List.getElem_of_mem hm
    have := hz.1 i hi
    rw [List.getD_eq_getElem?_getD, List.getElem?_eq_getElem hi] at this
    exact ⟨mayX_ok this, this.2.2⟩
  have h1 := writeL_small (ys := xs ++ (1, s) :: ks) (fun y hy => by
    rcases List.mem_append.1 hy with hy | hy
    · exact key hx y hy
    · rcases List.mem_cons.1 hy with rfl | hy
      · exact ⟨⟨.inr rfl, by show s.length ≤ 4096; omega⟩, hs⟩
      · exact key hk y hy)
  rw [List.length_append, List.length_cons] at h1
  have := hx.2
  have := hk.2
  omega
theorem mayL_nil : mayL [] := ⟨fun i hi => absurd hi (Nat.not_lt_zero _), by decide⟩
theorem ks_len (ks : List Ent) (i : Nat) : (ks.take i).length ≤ ks.length := by
  rw [List.length_take]; omega
set_option maxRecDepth 100000 in
set_option maxHeartbeats 8000000 in
theorem since_law {W : World} {F : Snap} {cs : List Res} (w : World) {A : Option Addr} {cap : Nat} {xs : List Ent} {A2 : Option Addr} {cap2 : Nat} {ks : List Ent} {s : List UInt8} (h : St W F cs w) (hR : RdS KEn F A xs) (hl : xs.length ≤ 9223372036854775807) (hsm : s.length ≤ 9223372036854775807) (hK : RdS KEn F A2 ks) (hkl : ks.length ≤ 9223372036854775807) : Calls Try.prog 6 #[.slice A xs.length cap, .string (bs s), .slice A2 ks.length cap2] w fun r w' => r = .returned (.bool true) ∧ St W F cs w'  := by
  refine enter (P := Try.prog) (args := [.slice A xs.length cap, .string (bs s), .slice A2 ks.length cap2]) Try.func6 rfl rfl rfl ?_
  have hle : Le F F := Le.refl F
  refine WC.seq ?_
  refine WC.reg ?_
  refine WL.v (Runs.assign rfl) rfl ?_
  refine WL.nil ?_
  refine WN.thn ?_
  refine WC.seq ?_
  refine WC.seq ?_
  rcases sinceCase (mayL xs) (mayL ks) s.length with hm | ⟨hm1, hm⟩ | ⟨hm1, hm2, hs⟩ | ⟨hm1, hm2, hs⟩
  · skip
    refine WC.reg ?_
    refine WL.v (Runs.move rfl) rfl ?_
    refine WL.call can25 rfl rfl (may_c _ h hR hl) ?_
    rintro _ w1 ⟨rfl, h1⟩
    refine ⟨_, rfl, ?_⟩
    refine WL.v (Runs.boolT (c := true) (Runs.not rfl) (by rw [decide_eq_false hm]; rfl)) rfl ?_
    refine WL.v (Runs.move rfl) rfl ?_
    refine WL.goff rfl rfl rfl rfl ?_
    refine WL.goff rfl rfl rfl rfl ?_
    refine WL.goff rfl rfl rfl rfl ?_
    refine WL.v (Runs.pick rfl rfl rfl) rfl ?_
    refine WL.v (Runs.move rfl) rfl ?_
    refine WL.goff rfl rfl rfl rfl ?_
    refine WL.goff rfl rfl rfl rfl ?_
    refine WL.goff rfl rfl rfl rfl ?_
    refine WL.v (Runs.pick rfl rfl rfl) rfl ?_
    refine WL.nil ?_
    refine WN.thn ?_
    refine WC.condT rfl (rfl) ?_
    refine WC.seq ?_
    refine WC.reg ?_
    refine WL.call can8 rfl rfl (live_c _ h1) ?_
    rintro _ w2 ⟨rfl, h2⟩
    refine ⟨_, rfl, ?_⟩
    refine WL.v (Runs.assign rfl) rfl ?_
    refine WL.nil ?_
    refine WN.thn ?_
    refine WC.ret ?_
    exact ret1 rfl rfl ⟨rfl, h2⟩
  · skip
    refine WC.reg ?_
    refine WL.v (Runs.move rfl) rfl ?_
    refine WL.call can25 rfl rfl (may_c _ h hR hl) ?_
    rintro _ w3 ⟨rfl, h3⟩
    refine ⟨_, rfl, ?_⟩
    refine WL.v (Runs.boolT (c := false) (Runs.not rfl) (by rw [decide_eq_true hm1]; rfl)) rfl ?_
    refine WL.v (Runs.move rfl) rfl ?_
    refine WL.gon rfl rfl rfl ?_
    refine WL.v (Runs.move rfl) rfl ?_
    refine WL.gon rfl rfl rfl ?_
    refine WL.call can25 rfl rfl (may_c _ h3 hK hkl) ?_
    rintro _ w4 ⟨rfl, h4⟩
    refine ⟨_, rfl, ?_⟩
    refine WL.gon rfl rfl rfl ?_
    refine WL.v (Runs.boolT (c := true) (Runs.not rfl) (by rw [decide_eq_false hm]; rfl)) rfl ?_
    refine WL.v (Runs.pick rfl rfl rfl) rfl ?_
    refine WL.v (Runs.move rfl) rfl ?_
    refine WL.goff rfl rfl rfl rfl ?_
    refine WL.goff rfl rfl rfl rfl ?_
    refine WL.goff rfl rfl rfl rfl ?_
    refine WL.v (Runs.pick rfl rfl rfl) rfl ?_
    refine WL.nil ?_
    refine WN.thn ?_
    refine WC.condT rfl (rfl) ?_
    refine WC.seq ?_
    refine WC.reg ?_
    refine WL.call can8 rfl rfl (live_c _ h4) ?_
    rintro _ w5 ⟨rfl, h5⟩
    refine ⟨_, rfl, ?_⟩
    refine WL.v (Runs.assign rfl) rfl ?_
    refine WL.nil ?_
    refine WN.thn ?_
    refine WC.ret ?_
    exact ret1 rfl rfl ⟨rfl, h5⟩
  · skip
    refine WC.reg ?_
    refine WL.v (Runs.move rfl) rfl ?_
    refine WL.call can25 rfl rfl (may_c _ h hR hl) ?_
    rintro _ w6 ⟨rfl, h6⟩
    refine ⟨_, rfl, ?_⟩
    refine WL.v (Runs.boolT (c := false) (Runs.not rfl) (by rw [decide_eq_true hm1]; rfl)) rfl ?_
    refine WL.v (Runs.move rfl) rfl ?_
    refine WL.gon rfl rfl rfl ?_
    refine WL.v (Runs.move rfl) rfl ?_
    refine WL.gon rfl rfl rfl ?_
    refine WL.call can25 rfl rfl (may_c _ h6 hK hkl) ?_
    rintro _ w7 ⟨rfl, h7⟩
    refine ⟨_, rfl, ?_⟩
    refine WL.gon rfl rfl rfl ?_
    refine WL.v (Runs.boolT (c := false) (Runs.not rfl) (by rw [decide_eq_true hm2]; rfl)) rfl ?_
    refine WL.v (Runs.pick rfl rfl rfl) rfl ?_
    refine WL.v (Runs.move rfl) rfl ?_
    refine WL.gon rfl rfl rfl ?_
    refine WL.v (Runs.move rfl) rfl ?_
    refine WL.gon rfl rfl rfl ?_
    refine WL.v (Runs.intT (n := (s.length : Int)) (Runs.slen Try.underlying9 rfl rfl) rfl) rfl ?_
    refine WL.gon rfl rfl rfl ?_
    refine WL.v (Runs.boolT (c := true) (Runs.gtr rfl rfl) (by rw [decide_eq_true_eq]; omega)) rfl ?_
    refine WL.v (Runs.pick rfl rfl rfl) rfl ?_
    refine WL.nil ?_
    refine WN.thn ?_
    refine WC.condT rfl (rfl) ?_
    refine WC.seq ?_
    refine WC.reg ?_
    refine WL.call can8 rfl rfl (live_c _ h7) ?_
    rintro _ w8 ⟨rfl, h8⟩
    refine ⟨_, rfl, ?_⟩
    refine WL.v (Runs.assign rfl) rfl ?_
    refine WL.nil ?_
    refine WN.thn ?_
    refine WC.ret ?_
    exact ret1 rfl rfl ⟨rfl, h8⟩
  · skip
    refine WC.reg ?_
    refine WL.v (Runs.move rfl) rfl ?_
    refine WL.call can25 rfl rfl (may_c _ h hR hl) ?_
    rintro _ w9 ⟨rfl, h9⟩
    refine ⟨_, rfl, ?_⟩
    refine WL.v (Runs.boolT (c := false) (Runs.not rfl) (by rw [decide_eq_true hm1]; rfl)) rfl ?_
    refine WL.v (Runs.move rfl) rfl ?_
    refine WL.gon rfl rfl rfl ?_
    refine WL.v (Runs.move rfl) rfl ?_
    refine WL.gon rfl rfl rfl ?_
    refine WL.call can25 rfl rfl (may_c _ h9 hK hkl) ?_
    rintro _ w10 ⟨rfl, h10⟩
    refine ⟨_, rfl, ?_⟩
    refine WL.gon rfl rfl rfl ?_
    refine WL.v (Runs.boolT (c := false) (Runs.not rfl) (by rw [decide_eq_true hm2]; rfl)) rfl ?_
    refine WL.v (Runs.pick rfl rfl rfl) rfl ?_
    refine WL.v (Runs.move rfl) rfl ?_
    refine WL.gon rfl rfl rfl ?_
    refine WL.v (Runs.move rfl) rfl ?_
    refine WL.gon rfl rfl rfl ?_
    refine WL.v (Runs.intT (n := (s.length : Int)) (Runs.slen Try.underlying9 rfl rfl) rfl) rfl ?_
    refine WL.gon rfl rfl rfl ?_
    refine WL.v (Runs.boolT (c := false) (Runs.gtr rfl rfl) (by rw [decide_eq_false_iff_not]; omega)) rfl ?_
    refine WL.v (Runs.pick rfl rfl rfl) rfl ?_
    refine WL.nil ?_
    refine WN.thn ?_
    refine WC.condF rfl (rfl) ?_
    refine WC.skip ?_
    refine WN.thn ?_
    refine WC.seq ?_
    refine WC.seq ?_
    have hx12 := hm1.2
    have hk12 := hm2.2
    have hwl := writeL_len xs
    refine WC.reg ?_
    refine WL.v (Runs.assign rfl) rfl ?_
    refine WL.nil ?_
    refine WN.thn ?_
    refine WC.block ?_
    refine WC.loop (σ := Nat) (fun q_ => [(0, .slice A xs.length cap), (1, .string (bs s)), (2, .slice A2 ks.length cap2), (7, .int .i64 (q_ : Int))]) (fun q_ w => q_ ≤ ks.length ∧ (∀ j, j < q_ → (ks.getD j (0, [])).1 = 0) ∧ St W F cs w) (fun q_ => ks.length - q_) (0) (by repeat (first | exact trivial | refine ⟨rfl, ?_⟩)) (⟨Nat.zero_le _, fun j hj => absurd hj (Nat.not_lt_zero _), h10⟩) ?_
    rintro i w11 ⟨hi, hall, hL⟩
    try dsimp only at hi hall hL
    refine WC.sub (s := [(0, .slice A xs.length cap), (1, .string (bs s)), (2, .slice A2 ks.length cap2), (7, .int .i64 (i : Int))]) (by repeat (first | exact trivial | refine ⟨rfl, ?_⟩)) ?_
    refine WC.seq ?_
    refine WC.seq ?_
    refine WC.reg ?_
    refine WL.v (Runs.move rfl) rfl ?_
    refine WL.v (Runs.move rfl) rfl ?_
    refine WL.v (Runs.intT (n := (ks.length : Int)) (Runs.llen Try.underlying35 rfl rfl) rfl) rfl ?_
    refine WL.v (Runs.lss rfl rfl) rfl ?_
    refine WL.nil ?_
    refine WN.thn ?_
    refine WC.cond rfl (fun c12 => ?_) (fun c12 => ?_)
    · try simp only [decide_eq_true_eq, decide_eq_false_iff_not, Bool.not_eq_true', Bool.not_eq_false', Bool.and_eq_true, Int.not_lt, Int.not_le] at c12
      first
      | (exfalso; omega)
      | skip
        refine WC.skip ?_
        refine WN.thn ?_
        refine WC.seq ?_
        refine WC.block ?_
        refine WC.seq ?_
        have hi2 : i < ks.length := by omega
        obtain ⟨a1, rfl, hen⟩ := ent_at hK hi2
        refine WC.reg ?_
        refine WL.v (Runs.move rfl) rfl ?_
        refine WL.v (Runs.move rfl) rfl ?_
        refine WL.v (Runs.lidxK Try.underlying35 inf45 rfl rfl (n := i) rfl (by omega)) rfl ?_
        refine WL.v (Runs.fld fld45_0 rfl) rfl ?_
        refine WL.v (Runs.load1 Try.underlying3 rfl rfl (by rw [add_add]; exact hL.cell (hen 0 _ rfl))) rfl ?_
        refine WL.v (Runs.neq rfl rfl) rfl ?_
        refine WL.nil ?_
        refine WN.thn ?_
        refine WC.cond rfl (fun c13 => ?_) (fun c13 => ?_)
        · try simp only [decide_eq_true_eq, decide_eq_false_iff_not, Bool.not_eq_true', Bool.not_eq_false', Bool.and_eq_true, Int.not_lt, Int.not_le] at c13
          first
          | (exfalso; omega)
          | skip
            refine WC.seq ?_
            refine WC.reg ?_
            refine WL.call can8 rfl rfl (live_c _ hL) ?_
            rintro _ w14 ⟨rfl, h14⟩
            refine ⟨_, rfl, ?_⟩
            refine WL.v (Runs.assign rfl) rfl ?_
            refine WL.nil ?_
            refine WN.thn ?_
            refine WC.ret ?_
            exact ret1 rfl rfl ⟨rfl, h14⟩
        · try simp only [decide_eq_true_eq, decide_eq_false_iff_not, Bool.not_eq_true', Bool.not_eq_false', Bool.and_eq_true, Int.not_lt, Int.not_le] at c13
          first
          | (exfalso; omega)
          | skip
            refine WC.skip ?_
            refine WN.blk ?_
            refine WN.thn ?_
            refine WC.reg ?_
            refine WL.v (Runs.move rfl) rfl ?_
            refine WL.v (Runs.addn rfl rfl (by omega)) rfl ?_
            refine WL.v (Runs.assign rfl) rfl ?_
            refine WL.nil ?_
            exact WN.again (i + 1) (by omega) ⟨rfl, rfl, rfl, rfl, trivial⟩ ⟨by omega, fun j hj => (by
              by_cases e : j = i
              · subst e; simpa using c13
              · exact hall j (by omega)), hL⟩
    · try simp only [decide_eq_true_eq, decide_eq_false_iff_not, Bool.not_eq_true', Bool.not_eq_false', Bool.and_eq_true, Int.not_lt, Int.not_le] at c12
      first
      | (exfalso; omega)
      | skip
        refine WC.exit ?_
        refine WX.thn ?_
        refine WX.cut ?_
        refine WX.hit ?_
        refine WN.thn ?_
        refine WC.seq ?_
        have hkz : ∀ j, j < ks.length → (ks.getD j (0, [])).1 = 0 := fun j hj => hall j (by omega)
        refine WC.reg ?_
        refine WL.v (Runs.move rfl) rfl ?_
        refine WL.call can26 rfl rfl (write_c _ hL hR hm1) ?_
        rintro _ w15 ⟨rfl, h15⟩
        refine ⟨_, rfl, ?_⟩
        refine WL.v (Runs.assign rfl) rfl ?_
        refine WL.nil ?_
        refine WN.thn ?_
        refine WC.seq ?_
        refine WC.reg ?_
        refine WL.v (Runs.move rfl) rfl ?_
        refine WL.v (Runs.move rfl) rfl ?_
        refine WL.call can9 rfl rfl ((C1.to (g := apV) (app_0 ks hs) (append_c _ (writeL xs) 1 s h15 (by omega)))) ?_
        rintro _ w16 ⟨rfl, h16⟩
        refine ⟨_, rfl, ?_⟩
        refine WL.v (Runs.move rfl) rfl ?_
        refine WL.v (Runs.extract rfl rfl) rfl ?_
        refine WL.v (Runs.extract rfl rfl) rfl ?_
        refine WL.v (Runs.assign rfl) rfl ?_
        refine WL.v (Runs.assign rfl) rfl ?_
        refine WL.nil ?_
        refine WN.thn ?_
        refine WC.seq ?_
        refine WC.reg ?_
        refine WL.v (Runs.move rfl) rfl ?_
        refine WL.v (Runs.move rfl) rfl ?_
        refine WL.call can15 rfl rfl ((C1.to (g := fun z => .string (bs z)) (comp_0 ks hs) (compact_c _ (writeL xs) s h16))) ?_
        rintro _ w17 ⟨rfl, h17⟩
        refine ⟨_, rfl, ?_⟩
        refine WL.v (Runs.assign rfl) rfl ?_
        refine WL.nil ?_
        refine WN.thn ?_
        refine WC.seq ?_
        refine WC.seq ?_
        refine WC.reg ?_
        refine WL.v (Runs.assign rfl) rfl ?_
        refine WL.nil ?_
        refine WN.thn ?_
        refine WC.block ?_
        refine WC.loop (σ := Nat) (fun q_ => [(1, .string (bs s)), (2, .slice A2 ks.length cap2), (9, .string (bs (writeL (xs ++ (1, s) :: ks.take q_)))), (10, Vi 0), (11, .string (bs (writeL ((1, s) :: ks.take q_)))), (12, .int .i64 (q_ : Int))]) (fun q_ w => q_ ≤ ks.length ∧ St W F cs w) (fun q_ => ks.length - q_) (0) (by repeat (first | exact trivial | refine ⟨rfl, ?_⟩)) (⟨Nat.zero_le _, h17⟩) ?_
        rintro i w18 ⟨hi, hL⟩
        try dsimp only at hi hL
        refine WC.sub (s := [(1, .string (bs s)), (2, .slice A2 ks.length cap2), (9, .string (bs (writeL (xs ++ (1, s) :: ks.take i)))), (10, Vi 0), (11, .string (bs (writeL ((1, s) :: ks.take i)))), (12, .int .i64 (i : Int))]) (by repeat (first | exact trivial | refine ⟨rfl, ?_⟩)) ?_
        refine WC.seq ?_
        refine WC.seq ?_
        refine WC.reg ?_
        refine WL.v (Runs.move rfl) rfl ?_
        refine WL.v (Runs.move rfl) rfl ?_
        refine WL.v (Runs.intT (n := (ks.length : Int)) (Runs.llen Try.underlying35 rfl rfl) rfl) rfl ?_
        refine WL.v (Runs.lss rfl rfl) rfl ?_
        refine WL.nil ?_
        refine WN.thn ?_
        refine WC.cond rfl (fun c19 => ?_) (fun c19 => ?_)
        · try simp only [decide_eq_true_eq, decide_eq_false_iff_not, Bool.not_eq_true', Bool.not_eq_false', Bool.and_eq_true, Int.not_lt, Int.not_le] at c19
          first
          | (exfalso; omega)
          | skip
            refine WC.skip ?_
            refine WN.thn ?_
            refine WC.seq ?_
            refine WC.block ?_
            refine WC.seq ?_
            have hi2 : i < ks.length := by omega
            obtain ⟨a1, rfl, hen⟩ := ent_at hK hi2
            refine WC.reg ?_
            refine WL.v (Runs.move rfl) rfl ?_
            refine WL.v (Runs.move rfl) rfl ?_
            refine WL.v (Runs.move rfl) rfl ?_
            refine WL.v (Runs.lidxK Try.underlying35 inf45 rfl rfl (n := i) rfl (by omega)) rfl ?_
            refine WL.v (Runs.fld fld45_1 rfl) rfl ?_
            refine WL.v (Runs.load1 Try.underlying9 rfl rfl (by rw [add_add]; exact hL.cell (hen 1 _ rfl))) rfl ?_
            refine WL.call can9 rfl rfl ((C1.to (g := apV) (app_s hi2 (hkz i hi2) (mayX_ok (hm2.1 i hi2))) (append_c _ (writeL (xs ++ (1, s) :: ks.take i)) 0 (ks.getD i (0, [])).2 hL (by have h1_ := writeL_len (xs ++ (1, s) :: ks.take i); rw [List.length_append, List.length_cons] at h1_; have h2_ := ks_len ks i; omega)))) ?_
            rintro _ w20 ⟨rfl, h20⟩
            refine ⟨_, rfl, ?_⟩
            refine WL.v (Runs.move rfl) rfl ?_
            refine WL.v (Runs.extract rfl rfl) rfl ?_
            refine WL.v (Runs.extract rfl rfl) rfl ?_
            refine WL.v (Runs.assign rfl) rfl ?_
            refine WL.nil ?_
            refine WN.thn ?_
            refine WC.reg ?_
            refine WL.v (Runs.move rfl) rfl ?_
            refine WL.v (Runs.move rfl) rfl ?_
            refine WL.v (Runs.move rfl) rfl ?_
            refine WL.v (Runs.lidxK Try.underlying35 inf45 rfl rfl (n := i) rfl (by omega)) rfl ?_
            refine WL.v (Runs.fld fld45_1 rfl) rfl ?_
            refine WL.v (Runs.load1 Try.underlying9 rfl rfl (by rw [add_add]; exact h20.cell (hen 1 _ rfl))) rfl ?_
            refine WL.call can9 rfl rfl ((C1.to (g := apV) (app_s1 hi2 (hkz i hi2) (mayX_ok (hm2.1 i hi2))) (append_c _ (writeL ((1, s) :: ks.take i)) 0 (ks.getD i (0, [])).2 h20 (by have h1_ := writeL_len ((1, s) :: ks.take i); rw [List.length_cons] at h1_; have h2_ := ks_len ks i; omega)))) ?_
            rintro _ w21 ⟨rfl, h21⟩
            refine ⟨_, rfl, ?_⟩
            refine WL.v (Runs.move rfl) rfl ?_
            refine WL.v (Runs.extract rfl rfl) rfl ?_
            refine WL.v (Runs.extract rfl rfl) rfl ?_
            refine WL.v (Runs.assign rfl) rfl ?_
            refine WL.nil ?_
            refine WN.blk ?_
            refine WN.thn ?_
            refine WC.reg ?_
            refine WL.v (Runs.move rfl) rfl ?_
            refine WL.v (Runs.addn rfl rfl (by omega)) rfl ?_
            refine WL.v (Runs.assign rfl) rfl ?_
            refine WL.nil ?_
            exact WN.again (i + 1) (by omega) ⟨rfl, rfl, rfl, rfl, rfl, rfl, trivial⟩ ⟨by omega, h21⟩
        · try simp only [decide_eq_true_eq, decide_eq_false_iff_not, Bool.not_eq_true', Bool.not_eq_false', Bool.and_eq_true, Int.not_lt, Int.not_le] at c19
          first
          | (exfalso; omega)
          | skip
            refine WC.exit ?_
            refine WX.thn ?_
            refine WX.cut ?_
            refine WX.hit ?_
            refine WN.thn ?_
            refine WC.seq ?_
            have hii : i = ks.length := by omega
            subst hii
            have hsA := since_w (mayL_all hm1) (mayL_all hm2) hs (kinds_0 hkz)
            have hsB := since_w (xs := []) (fun x hx => by cases hx) (mayL_all hm2) hs (kinds_0 hkz)
            rw [show ks.take ks.length = ks from List.take_length]
            refine WC.reg ?_
            refine WL.v (Runs.assign rfl) rfl ?_
            refine WL.nil ?_
            refine WN.thn ?_
            refine WC.seq ?_
            have hN0 := hL.nilRes
            refine WC.reg ?_
            refine WL.v (Runs.move rfl) rfl ?_
            refine WL.v (Runs.move rfl) rfl ?_
            refine WL.v (Runs.build (vs := [(0, Vi 1), (1, .string (bs s))]) (cells := #[Vi 1, .string (bs s)]) rfl (by kernel_rfl)) rfl ?_
            refine WL.buildSlice (vs := [entA (1, s)]) hN0 rfl Try.underlying35 (inf45.elem rfl rfl) rfl rfl rfl (by decide) ?_
            intro lit81 w22 h22
            try simp only [List.set_cons_zero, List.set_cons_succ, List.eraseIdx_cons_zero, List.eraseIdx_cons_succ] at h22
            refine WL.appM (f := entC) (ys := [(1, s)]) 1 h22 rfl rfl rfl rfl Try.underlying35 Try.underlying35 (.inr ⟨_, rfl⟩) (inf45.elem rfl rfl) (RowM.nil 45 2 entC) (Src.litM h22 0 rfl rfl rfl) rfl (by first | omega | (simp; done) | (simp; omega)) (by first | omega | (simp; done) | (simp; omega)) ?_
            intro r23 v23 w24 hr23 h24
            simp only [List.set_cons_zero, List.set_cons_succ] at h24
            replace h24 := h24.drop 0
            simp only [List.eraseIdx_cons_zero, List.eraseIdx_cons_succ] at h24
            obtain ⟨A23, cap23, rfl, hcap23⟩ := hr23.val
            refine WL.v (Runs.assign rfl) rfl ?_
            refine WL.nil ?_
            refine WN.thn ?_
            refine WC.seq ?_
            refine WC.reg ?_
            refine WL.v (Runs.move rfl) rfl ?_
            refine WL.v (Runs.move rfl) rfl ?_
            refine WL.appM (f := entC) (ys := ks) 0 h24 rfl rfl rfl rfl Try.underlying35 Try.underlying35 (.inr ⟨_, rfl⟩) (inf45.elem rfl rfl) hr23 (Src.rdM hK h24 rfl (fun _ => rfl)) rfl (by first | omega | (simp; done) | (simp; omega)) (by first | omega | (simp; done) | (simp; omega)) ?_
            intro r25 v25 w26 hr25 h26
            simp only [List.set_cons_zero, List.set_cons_succ] at h26
            obtain ⟨A25, cap25, rfl, hcap25⟩ := hr25.val
            refine WL.v (Runs.assign rfl) rfl ?_
            refine WL.nil ?_
            refine WN.thn ?_
            refine WC.seq ?_
            obtain ⟨G9, hG9, gf9, hS9⟩ := h26.freeze (i := 0) rfl
            have rdo : RdS KEn G9 _ ((1, s) :: ks) := RowM.read (f := entC) (m := 2) (fun _ => rfl) hr25 rfl gf9
            replace h26 := hS9
            simp only [List.eraseIdx_cons_zero] at h26
            replace hR := hR.mono hG9
            replace hK := hK.mono hG9
            replace hle := Le.trans hle hG9
            
            refine WC.reg ?_
            refine WL.v (Runs.move rfl) rfl ?_
            refine WL.v (Runs.boolT (c := true) (Runs.eql rfl rfl) rfl) rfl ?_
            refine WL.v (Runs.move rfl) rfl ?_
            refine WL.gon rfl rfl rfl ?_
            refine WL.v (Runs.move rfl) rfl ?_
            refine WL.gon rfl rfl rfl ?_
            refine WL.call can23 rfl rfl ((Si.to hsA (since_c _ (writeL (xs ++ (1, s) :: ks)) h26 (by have h1_ := small_all hm1 hm2 hs; omega)))) ?_
            rintro _ w27 ⟨Ga, Aa, capa, hGa, rfl, hca, rda, h27⟩
            refine ⟨_, rfl, ?_⟩
            replace hR := hR.mono hGa
            replace hK := hK.mono hGa
            replace rdo := rdo.mono hGa
            replace hle := Le.trans hle hGa
            refine WL.gon rfl rfl rfl ?_
            refine WL.call can20 rfl rfl (told_c _ h27 rda (by rw [List.length_cons]; omega)) ?_
            rintro _ w28 ⟨Gb, Ab, capb, hGb, rfl, rdb, h28⟩
            refine ⟨_, rfl, ?_⟩
            replace hR := hR.mono hGb
            replace hK := hK.mono hGb
            replace rdo := rdo.mono hGb
            replace rda := rda.mono hGb
            replace hle := Le.trans hle hGb
            refine WL.gon rfl rfl rfl ?_
            refine WL.v (Runs.move rfl) rfl ?_
            refine WL.gon rfl rfl rfl ?_
            refine WL.call can19 rfl rfl (esame_c _ h28 rdb rdo (by rw [List.length_cons]; omega)) ?_
            rintro _ w29 ⟨rfl, h29⟩
            refine ⟨_, rfl, ?_⟩
            refine WL.v (Runs.pick rfl rfl rfl) rfl ?_
            refine WL.v (Runs.move rfl) rfl ?_
            refine WL.gon rfl rfl rfl ?_
            refine WL.v (Runs.move rfl) rfl ?_
            refine WL.gon rfl rfl rfl ?_
            refine WL.call can23 rfl rfl ((Si.to hsB (since_c _ (writeL ((1, s) :: ks)) h29 (by have h1_ : (writeL ((1, s) :: ks)).length ≤ 10000 := small_all mayL_nil hm2 hs; omega)))) ?_
            rintro _ w30 ⟨Gc, Ac, capc, hGc, rfl, hcc, rdc, h30⟩
            refine ⟨_, rfl, ?_⟩
            replace hR := hR.mono hGc
            replace hK := hK.mono hGc
            replace rdo := rdo.mono hGc
            replace rda := rda.mono hGc
            replace rdb := rdb.mono hGc
            replace hle := Le.trans hle hGc
            refine WL.gon rfl rfl rfl ?_
            refine WL.call can20 rfl rfl (told_c _ h30 rdc (by rw [List.length_cons]; omega)) ?_
            rintro _ w31 ⟨Gd, Ad, capd, hGd, rfl, rdd, h31⟩
            refine ⟨_, rfl, ?_⟩
            replace hR := hR.mono hGd
            replace hK := hK.mono hGd
            replace rdo := rdo.mono hGd
            replace rda := rda.mono hGd
            replace rdb := rdb.mono hGd
            replace rdc := rdc.mono hGd
            replace hle := Le.trans hle hGd
            refine WL.gon rfl rfl rfl ?_
            refine WL.v (Runs.move rfl) rfl ?_
            refine WL.gon rfl rfl rfl ?_
            refine WL.call can19 rfl rfl (esame_c _ h31 rdd rdo (by rw [List.length_cons]; omega)) ?_
            rintro _ w32 ⟨rfl, h32⟩
            refine ⟨_, rfl, ?_⟩
            refine WL.v (Runs.pick rfl rfl rfl) rfl ?_
            refine WL.v (Runs.move rfl) rfl ?_
            refine WL.gon rfl rfl rfl ?_
            refine WL.call can8 rfl rfl (live_c _ h32) ?_
            rintro _ w33 ⟨rfl, h33⟩
            refine ⟨_, rfl, ?_⟩
            refine WL.v (Runs.pick rfl rfl rfl) rfl ?_
            refine WL.v (Runs.assign rfl) rfl ?_
            refine WL.nil ?_
            refine WN.thn ?_
            refine WC.ret ?_
            exact ret1 rfl rfl ⟨rfl, h33.weak hle⟩
end Jo
end Go.Proofs.Ythjcfhfbaeokeaa
