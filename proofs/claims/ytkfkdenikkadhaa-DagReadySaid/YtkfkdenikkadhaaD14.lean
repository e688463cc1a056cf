/- Walks of package dag: who is skipped. -/
import Derived.Test.YtkfkdenikkadhaaD13
namespace Go.Proofs.Ytkfkdenikkadhaa
open Go Go.RowKit B
set_option linter.unusedVariables false
set_option linter.unusedSimpArgs false
namespace Dg

theorem inf28 : Inf Try.prog 28 (.slice none 0 0) 1 24 := by unfold Inf; kernel_rfl
theorem can32 : B.Can Try.prog 32 := ⟨_, Try.func32, by kernel_rfl, rfl⟩   -- slices.Clone[[]int,int]
theorem can33 : B.Can Try.prog 33 := ⟨_, Try.func33, by kernel_rfl, rfl⟩   -- roundhouse/dag.Settle$1
theorem can34 : B.Can Try.prog 34 := ⟨_, Try.func34, by kernel_rfl, rfl⟩   -- slices.ContainsFunc[[]roundhouse/api.Edge,roundhouse/api.Edge]
theorem ordF_in {l : List S} : ∀ {n : Nat} {out : List Int}, (∀ x ∈ out, 0 ≤ x ∧ x < l.length) → ∀ x ∈ ordF l n out, 0 ≤ x ∧ x < l.length
  | 0, out, h, x, hx => h x hx
  | n + 1, out, h, x, hx => by
    rw [ordF] at hx
    split at hx
    · exact h x hx
    · rename_i i hi
      refine ordF_in (fun y hy => ?_) x hx
      rcases List.mem_append.1 hy with hy | hy
      · exact h y hy
      · have := (nextM_spec hi).1
        rw [List.mem_singleton] at hy
        omega
theorem ordM_in {l : List S} : ∀ x ∈ ordM l, 0 ≤ x ∧ x < l.length := ordF_in (fun x hx => by cases hx)
theorem ordF_len {l : List S} : ∀ {n : Nat} {out : List Int}, (ordF l n out).length ≤ out.length + n
  | 0, out => Nat.le_refl _
  | n + 1, out => by
    rw [ordF]
    split
    · omega
    · rename_i i hi
      have := ordF_len (l := l) (n := n) (out := out ++ [(i : Int)])
      rw [List.length_append] at this
      exact Nat.le_trans this (by show out.length + 1 + n ≤ _; omega)
theorem ordM_len (l : List S) : (ordM l).length ≤ l.length := by
  have := ordF_len (l := l) (n := l.length) (out := [])
  simpa [ordM] using this
theorem edge_mem {l : List S} {c : List Int} (hok : okAll l) {i : Nat} (hi : i < l.length) {e : E} (he : e ∈ (l.getD i S0).af) (hc : c.length = l.length) : 0 ≤ e.st ∧ e.st < c.length := by
  obtain ⟨k, hk, rfl⟩ := List.getElem_of_mem he
  have := edge_in hok hi hk
  rw [List.getD_eq_getElem?_getD, List.getElem?_eq_getElem hk] at this
  have h1 : ((l.getD i S0).af[k]).st < l.length := this.2
  have h0 : 0 ≤ ((l.getD i S0).af[k]).st := this.1
  omega
def stlS (l : List S) (c : List Int) (x : Int) : List Int := if c.getD x.toNat 0 = -1 ∧ ((l.getD x.toNat S0).af.any fun e => failM e c) = true then c.set x.toNat 256 else c
theorem stlS_len (l : List S) (c : List Int) (x : Int) : (stlS l c x).length = c.length := by
  unfold stlS
  split
  · exact List.length_set
  · rfl
def stlF (l : List S) (xs : List Int) (c : List Int) : List Int := xs.foldl (stlS l) c
theorem stlF_s {l : List S} {xs c : List Int} {k : Nat} (h : k < xs.length) : stlF l (xs.take (k + 1)) c = stlS l (stlF l (xs.take k) c) (xs.getD k 0) := by
  have e : xs.take (k + 1) = xs.take k ++ [xs.getD k 0] := by rw [List.take_add_one, List.getElem?_eq_getElem h, List.getD_eq_getElem?_getD, List.getElem?_eq_getElem h]; rfl
  unfold stlF
  rw [e, List.foldl_append]; rfl
def settleM (l : List S) (codes : List Int) : List Int := if withM l codes = 0 then stlF l (ordM l) codes else []
set_option maxRecDepth 100000 in
set_option maxHeartbeats 8000000 in
theorem settle_c {W : World} {F : Snap} {cs : List Res} (w : World) {A : Option Addr} {cap : Nat} {l : List S} {A2 : Option Addr} {cap2 : Nat} {codes : List Int} (h : St W F cs w) (hR : RdS KS F A l) (hl : l.length ≤ 100000) (hf : fewE l) (hRc : RdS (Kd.one Vi) F A2 codes) (hc : codes.length ≤ 100000) : Calls Try.prog 18 #[.slice A l.length cap, .slice A2 codes.length cap2] w fun r w' => Gives2 W F cs (settleM l codes) (withM l codes) r w'  := by
  refine enter (P := Try.prog) (args := [.slice A l.length cap, .slice A2 codes.length cap2]) Try.func18 rfl rfl rfl ?_
  refine WC.seq ?_
  refine WC.reg ?_
  refine WL.box rfl h rfl ?_
  intro b3 w1 h1
  refine WL.v (Runs.assign rfl) rfl ?_
  refine WL.v (Runs.assign rfl) rfl ?_
  refine WL.nil ?_
  refine WN.thn ?_
  refine WC.seq ?_
  refine WC.seq ?_
  refine WC.reg ?_
  refine WL.v (Runs.move rfl) rfl ?_
  refine WL.v (Runs.load1 Try.underlying28 rfl rfl (h1.ocell (i := 0) rfl rfl)) rfl ?_
  refine WL.call can28 rfl rfl (with_c _ h1 hR hl hf hRc hc) ?_
  rintro _ w2 ⟨rfl, h2⟩
  refine ⟨_, rfl, ?_⟩
  refine WL.v (Runs.assign rfl) rfl ?_
  refine WL.nil ?_
  refine WN.thn ?_
  refine WC.seq ?_
  refine WC.reg ?_
  refine WL.v (Runs.move rfl) rfl ?_
  refine WL.v (Runs.neq rfl rfl) rfl ?_
  refine WL.nil ?_
  refine WN.thn ?_
  refine WC.cond rfl (fun c3 => ?_) (fun c3 => ?_)
  · try simp only [decide_eq_true_eq, decide_eq_false_iff_not, Bool.not_eq_true', Bool.not_eq_false', Bool.and_eq_true, Int.not_lt, Int.not_le] at c3
    first
    | (exfalso; omega)
    | skip
      refine WC.seq ?_
      refine WC.reg ?_
      refine WL.v (Runs.move rfl) rfl ?_
      refine WL.v (Runs.assign rfl) rfl ?_
      refine WL.v (Runs.assign rfl) rfl ?_
      refine WL.nil ?_
      refine WN.thn ?_
      refine WC.ret ?_
      exact ret2 rfl rfl rfl (by unfold settleM; rw [if_neg (by simpa using c3)]; exact Row.gives2 _ (Row.nil 3 Vi) (h2.drop 0).nilRes)
  · try simp only [decide_eq_true_eq, decide_eq_false_iff_not, Bool.not_eq_true', Bool.not_eq_false', Bool.and_eq_true, Int.not_lt, Int.not_le] at c3
    first
    | (exfalso; omega)
    | skip
      refine WC.skip ?_
      refine WN.thn ?_
      refine WC.seq ?_
      have hw0 : withM l codes = 0 := by simpa using c3
      have hw := with_ok hw0
      have hall := (chk_ok hw.1).1
      refine WC.reg ?_
      refine WL.v (Runs.load1 Try.underlying28 rfl rfl (h2.ocell (i := 0) rfl rfl)) rfl ?_
      refine WL.call can32 rfl rfl (clone_c _ h2 hRc (by have := (chk_ok hw.1).2; omega) hc) ?_
      rintro _ w4 ⟨r0, v0, rfl, hr0, h4⟩
      refine ⟨_, rfl, ?_⟩
      obtain ⟨B0, capr0, rfl, hcap0⟩ := hr0.val
      refine WL.store' h4 1 rfl rfl rfl inf28 rfl rfl (Free.zero _) (Nat.le_of_ble_eq_true rfl) ?_
      intro  w5 h5
      try simp only [List.set_cons_zero, List.set_cons_succ, List.eraseIdx_cons_zero, List.eraseIdx_cons_succ] at h5
      refine WL.nil ?_
      refine WN.thn ?_
      refine WC.seq ?_
      refine WC.seq ?_
      refine WC.reg ?_
      refine WL.v (Runs.move rfl) rfl ?_
      refine WL.call can25 rfl rfl (order_c _ h5 hR hl hf) ?_
      rintro _ w6 ⟨G, A3, cap3, hG, rfl, hc3, hR3, h6⟩
      refine ⟨_, rfl, ?_⟩
      refine WL.v (Runs.intT (n := ((ordM l).length : Int)) (Runs.llen Try.underlying28 rfl rfl) rfl) rfl ?_
      refine WL.v (Runs.move rfl) rfl ?_
      refine WL.nil ?_
      refine WN.thn ?_
      refine WC.block ?_
      refine WC.loop (σ := Nat × List Int × Res × Value) (fun q_ => [(0, .slice A l.length cap), (3, .pointer (some ⟨b3, 0, none⟩)), (19, .slice A3 (ordM l).length cap3), (20, .int .i64 ((ordM l).length : Int)), (21, .int .i64 (q_.1 : Int))]) (fun q_ w => q_.1 ≤ (ordM l).length ∧ q_.2.1 = stlF l ((ordM l).take q_.1) codes ∧ q_.2.1.length = l.length ∧ Row 3 Vi q_.2.2.1 q_.2.2.2 q_.2.1 ∧ St W G (q_.2.2.1 :: [(b3, .cells #[q_.2.2.2] 28 (0, 0))] :: cs) w) (fun q_ => (ordM l).length - q_.1) (⟨0, codes, r0, _⟩) (by repeat (first | exact trivial | refine ⟨rfl, ?_⟩)) (⟨Nat.zero_le _, rfl, hw.2.1, hr0, h6⟩) ?_
      rintro ⟨k, c, r, v⟩ w7 ⟨hk, hcM, hcl, hro, hL⟩
      try dsimp only at hk hcM hcl hro hL
      refine WC.sub (s := [(0, .slice A l.length cap), (3, .pointer (some ⟨b3, 0, none⟩)), (19, .slice A3 (ordM l).length cap3), (20, .int .i64 ((ordM l).length : Int)), (21, .int .i64 (k : Int))]) (by repeat (first | exact trivial | refine ⟨rfl, ?_⟩)) ?_
      obtain ⟨B, capr, rfl, hcap⟩ := hro.val
      refine WC.seq ?_
      refine WC.reg ?_
      refine WL.v (Runs.lss rfl rfl) rfl ?_
      refine WL.nil ?_
      refine WN.thn ?_
      refine WC.seq ?_
      refine WC.cond rfl (fun c8 => ?_) (fun c8 => ?_)
      · try simp only [decide_eq_true_eq, decide_eq_false_iff_not, Bool.not_eq_true', Bool.not_eq_false', Bool.and_eq_true, Int.not_lt, Int.not_le] at c8
        first
        | (exfalso; omega)
        | skip
          refine WC.skip ?_
          refine WN.thn ?_
          refine WC.seq ?_
          refine WC.block ?_
          refine WC.seq ?_
          have hk2 : k < (ordM l).length := by omega
          obtain ⟨a3, rfl, hrd⟩ := rd1 hR3 (by omega)
          have hxi := ordM_in _ (memD 0 hk2)
          have hx2 : ((ordM l).getD k 0).toNat < l.length := by omega
          obtain ⟨ad, A1, cap1, rfl, hE, hcell⟩ := stepAt (hR.mono hG) hx2
          have hf2 := hf _ hx2
          have hlo := ordM_len l
          obtain ⟨bb, zs, fz, rfl, hBv, hfr⟩ := Row.blk hro (by omega)
          injection hBv with e1 e2 e3
          subst e1
          subst e3
          refine WC.reg ?_
          refine WL.v (Runs.lidxN Try.underlying28 inf3 rfl rfl (n := k) rfl (by omega)) rfl ?_
          refine WL.v (Runs.loadR (f := Vi) (0 : Int) hL hrd (n := k) (by omega) Try.underlying3 rfl rfl) rfl ?_
          refine WL.v (Runs.assign rfl) rfl ?_
          refine WL.nil ?_
          refine WN.thn ?_
          refine WC.seq ?_
          refine WC.reg ?_
          refine WL.v (Runs.makeFunc (us := []) (vs := [.pointer (some ⟨b3, 0, none⟩)]) rfl rfl) rfl ?_
          refine WL.v (Runs.assign rfl) rfl ?_
          refine WL.nil ?_
          refine WN.thn ?_
          refine WC.seq ?_
          by_cases hx : c.getD ((ordM l).getD k 0).toNat 0 = -1
          · skip
            refine WC.reg ?_
            refine WL.v (Runs.load1 Try.underlying28 rfl rfl (hL.ocell (i := 1) rfl rfl)) rfl ?_
            refine WL.v (Runs.move rfl) rfl ?_
            refine WL.v (Runs.lidxN Try.underlying28 inf3 rfl rfl (n := ((ordM l).getD k 0).toNat) (by omega) (by omega)) rfl ?_
            refine WL.v (Runs.loadRow (0 : Int) hL 0 rfl hro (n := ((ordM l).getD k 0).toNat) (by omega) Try.underlying3 rfl rfl) rfl ?_
            refine WL.v (Runs.boolT (c := true) (Runs.eql rfl rfl) (decide_eq_true hx)) rfl ?_
            refine WL.v (Runs.move rfl) rfl ?_
            refine WL.gon rfl rfl rfl ?_
            refine WL.v (Runs.move rfl) rfl ?_
            refine WL.gon rfl rfl rfl ?_
            refine WL.v (Runs.move rfl) rfl ?_
            refine WL.gon rfl rfl rfl ?_
            refine WL.v (Runs.lidxK Try.underlying22 inf38 rfl rfl (n := ((ordM l).getD k 0).toNat) (by omega) (by omega)) rfl ?_
            refine WL.gon rfl rfl rfl ?_
            refine WL.v (Runs.fld fld38_4 rfl) rfl ?_
            refine WL.gon rfl rfl rfl ?_
            refine WL.v (Runs.load1 Try.underlying36 rfl rfl (by rw [add_add]; exact hL.cell (hcell 4 _ rfl))) rfl ?_
            refine WL.gon rfl rfl rfl ?_
            refine WL.v (Runs.move rfl) rfl ?_
            refine WL.gon rfl rfl rfl ?_
            refine WL.call can34 rfl rfl (cfE_c _ 33 _ (fun e => failM e c) can33 hL hE hf2 (fun w e he h => settle1_c w e h (i := 1) rfl (RdW.row hro (i := 0) rfl rfl h) (edge_mem hall hx2 he hcl))) ?_
            rintro _ w9 ⟨rfl, h9⟩
            refine ⟨_, rfl, ?_⟩
            refine WL.v (Runs.pick rfl rfl rfl) rfl ?_
            refine WL.nil ?_
            refine WN.thn ?_
            refine WC.cond rfl (fun c10 => ?_) (fun c10 => ?_)
            · try simp only [decide_eq_true_eq, decide_eq_false_iff_not, Bool.not_eq_true', Bool.not_eq_false', Bool.and_eq_true, Int.not_lt, Int.not_le] at c10
              first
              | (exfalso; omega)
              | skip
                refine WC.reg ?_
                refine WL.v (Runs.load1 Try.underlying28 rfl rfl (h9.ocell (i := 1) rfl rfl)) rfl ?_
                refine WL.v (Runs.move rfl) rfl ?_
                refine WL.v (Runs.valT (u := .pointer (some ⟨bb, ((ordM l).getD k 0).toNat, none⟩)) (Runs.lidxN Try.underlying28 inf3 rfl rfl (n := ((ordM l).getD k 0).toNat) (by omega) (by omega)) (by rw [add_mk, Nat.zero_add])) rfl ?_
                refine WL.storeRow (n := ((ordM l).getD k 0).toNat) (u := (256 : Int)) h9 0 rfl rfl rfl inf3 rfl hfr (by omega) ?_
                intro  w11 h11
                try simp only [List.set_cons_zero, List.set_cons_succ, List.eraseIdx_cons_zero, List.eraseIdx_cons_succ] at h11
                refine WL.nil ?_
                refine WN.blk ?_
                refine WN.thn ?_
                refine WC.reg ?_
                refine WL.v (Runs.addn rfl rfl (by omega)) rfl ?_
                refine WL.v (Runs.move rfl) rfl ?_
                refine WL.nil ?_
                have e9 : stlS l c ((ordM l).getD k 0) = c.set ((ordM l).getD k 0).toNat 256 := by unfold stlS; rw [if_pos ⟨hx, c10⟩]
                have hr9 := Row.mk_ (E := 3) (f := Vi) (b := bb) (fz := fz) (xs := c.set ((ordM l).getD k 0).toNat 256) (zs := zs) (cap := c.length + zs.length) (by rw [List.length_set]) (by rw [List.length_set]; exact hfr)
                rw [List.length_set] at hr9
                exact WN.again (⟨k + 1, c.set ((ordM l).getD k 0).toNat 256, _, _⟩ : Nat × List Int × Res × Value) (by show (ordM l).length - (k + 1) < (ordM l).length - k; omega) ⟨rfl, rfl, rfl, rfl, rfl, trivial⟩ ⟨by show k + 1 ≤ _; omega, (by show _ = stlF l ((ordM l).take (k + 1)) codes; rw [stlF_s hk2, ← hcM, e9]), (by show (c.set _ _).length = _; rw [List.length_set]; exact hcl), hr9, h11⟩
            · try simp only [decide_eq_true_eq, decide_eq_false_iff_not, Bool.not_eq_true', Bool.not_eq_false', Bool.and_eq_true, Int.not_lt, Int.not_le] at c10
              first
              | (exfalso; omega)
              | skip
                refine WC.skip ?_
                refine WN.blk ?_
                refine WN.thn ?_
                refine WC.reg ?_
                refine WL.v (Runs.addn rfl rfl (by omega)) rfl ?_
                refine WL.v (Runs.move rfl) rfl ?_
                refine WL.nil ?_
                have e9 : stlS l c ((ordM l).getD k 0) = c := by unfold stlS; rw [if_neg (fun hh => absurd hh.2 (by rw [c10]; simp))]
                exact WN.again (⟨k + 1, c, _, _⟩ : Nat × List Int × Res × Value) (by show (ordM l).length - (k + 1) < (ordM l).length - k; omega) ⟨rfl, rfl, rfl, rfl, rfl, trivial⟩ ⟨by show k + 1 ≤ _; omega, (by show _ = stlF l ((ordM l).take (k + 1)) codes; rw [stlF_s hk2, ← hcM, e9]), hcl, hro, h9⟩
          · skip
            refine WC.reg ?_
            refine WL.v (Runs.load1 Try.underlying28 rfl rfl (hL.ocell (i := 1) rfl rfl)) rfl ?_
            refine WL.v (Runs.move rfl) rfl ?_
            refine WL.v (Runs.lidxN Try.underlying28 inf3 rfl rfl (n := ((ordM l).getD k 0).toNat) (by omega) (by omega)) rfl ?_
            refine WL.v (Runs.loadRow (0 : Int) hL 0 rfl hro (n := ((ordM l).getD k 0).toNat) (by omega) Try.underlying3 rfl rfl) rfl ?_
            refine WL.v (Runs.boolT (c := false) (Runs.eql rfl rfl) (decide_eq_false hx)) rfl ?_
            refine WL.v (Runs.move rfl) rfl ?_
            refine WL.goff rfl rfl rfl rfl ?_
            refine WL.goff rfl rfl rfl rfl ?_
            refine WL.goff rfl rfl rfl rfl ?_
            refine WL.goff rfl rfl rfl rfl ?_
            refine WL.goff rfl rfl rfl rfl ?_
            refine WL.goff rfl rfl rfl rfl ?_
            refine WL.goff rfl rfl rfl rfl ?_
            refine WL.v (Runs.pick rfl rfl rfl) rfl ?_
            refine WL.nil ?_
            refine WN.thn ?_
            refine WC.condF rfl (rfl) ?_
            refine WC.skip ?_
            refine WN.blk ?_
            refine WN.thn ?_
            refine WC.reg ?_
            refine WL.v (Runs.addn rfl rfl (by omega)) rfl ?_
            refine WL.v (Runs.move rfl) rfl ?_
            refine WL.nil ?_
            have e9 : stlS l c ((ordM l).getD k 0) = c := by unfold stlS; rw [if_neg (fun hh => hx hh.1)]
            exact WN.again (⟨k + 1, c, _, _⟩ : Nat × List Int × Res × Value) (by show (ordM l).length - (k + 1) < (ordM l).length - k; omega) ⟨rfl, rfl, rfl, rfl, rfl, trivial⟩ ⟨by show k + 1 ≤ _; omega, (by show _ = stlF l ((ordM l).take (k + 1)) codes; rw [stlF_s hk2, ← hcM, e9]), hcl, hro, hL⟩
      · try simp only [decide_eq_true_eq, decide_eq_false_iff_not, Bool.not_eq_true', Bool.not_eq_false', Bool.and_eq_true, Int.not_lt, Int.not_le] at c8
        first
        | (exfalso; omega)
        | skip
          refine WC.exit ?_
          refine WX.thn ?_
          refine WX.cut ?_
          refine WX.hit ?_
          refine WN.thn ?_
          refine WC.seq ?_
          refine WC.reg ?_
          refine WL.v (Runs.load1 Try.underlying28 rfl rfl (hL.ocell (i := 1) rfl rfl)) rfl ?_
          refine WL.v (Runs.assign rfl) rfl ?_
          refine WL.v (Runs.assign rfl) rfl ?_
          refine WL.nil ?_
          refine WN.thn ?_
          refine WC.ret ?_
          have hkk : k = (ordM l).length := by omega
          subst hkk
          rw [List.take_of_length_le (Nat.le_refl _)] at hcM
          refine ret2 rfl rfl rfl ?_
          unfold settleM
          rw [if_pos hw0, hw0, ← hcM]
          obtain ⟨G2, A4, cap4, h91, h92, h93, h94, h95⟩ := Row.gives2 0 hro (hL.drop 1)
          exact ⟨G2, A4, cap4, Le.trans hG h91, h92, h93, h94, h95⟩
end Dg
end Go.Proofs.Ytkfkdenikkadhaa
