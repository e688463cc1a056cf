/- Walks of package sha: a block. -/
import Derived.Test.YtbkfjedecepfoaaMSha2
namespace Go.Proofs.Ytbkfjedecepfoaa
open Go Go.RowKit B
set_option linter.unusedVariables false
set_option linter.unusedSimpArgs false
namespace Sha
open ShaM (rotr Wd D8)

theorem can73 : B.Can Try.prog 73 := ⟨_, Try.func73, by kernel_rfl, rfl⟩   -- roundhouse/sha.schedule
theorem can74 : B.Can Try.prog 74 := ⟨_, Try.func74, by kernel_rfl, rfl⟩   -- roundhouse/sha.constants
theorem okb_lo {l : Int} {len cap : Nat} (h : 0 ≤ l ∧ l ≤ len) : okb (some l) none len cap := ⟨fun h e => (by cases e), fun l' e => by injection e with e; subst e; exact h⟩
theorem okb_hi {l : Int} {len cap : Nat} (h : 0 ≤ l ∧ l ≤ cap) : okb none (some l) len cap := ⟨fun h' e => (by injection e with e; subst e; exact h), fun l' e => (by cases e)⟩
theorem okb_lh {l h : Int} {len cap : Nat} (h0 : 0 ≤ l ∧ l ≤ h) (h1 : h ≤ cap) : okb (some l) (some h) len cap := ⟨fun h' e => (by injection e with e; subst e; omega), fun l' e => by injection e with e; subst e; simp only [hi_, Option.map_some, Option.getD_some]; omega⟩
theorem okb_no {len cap : Nat} : okb none none len cap := ⟨fun h e => (by cases e), fun l e => (by cases e)⟩
theorem first_own {P : Program} {W w : World} {F : Snap} {cs : List Res} (h : St W F cs w) (i : Nat) {b : Nat} {arr : Array Value} {tt : TypeId} {fz : Nat × Nat} (hi : cs[i]? = some [(b, .cells arr tt fz)]) (n m c : Nat) (hn : n ≤ arr.size) :
    (Builtin.firstCells 1 n (.slice (some ⟨b, 0, none⟩) m c)).run P w = .ok (arr.toList.take n).toArray w := by
  have hl : (arr.toList.take n).length = n := by rw [List.length_take, Array.length_toList]; omega
  have := B.run_loadCells (P := P) (w := w) (a := ⟨b, 0, none⟩) (arr.toList.take n) 0 #[] (fun j v hv => by
    rw [add_mk]
    refine h.ocell hi ?_
    rw [List.getElem?_take] at hv
    split at hv
    · simpa using hv
    · cases hv)
  rw [hl] at this
  simpa [Builtin.firstCells, loadCells] using this
set_option maxRecDepth 100000 in
set_option maxHeartbeats 4000000 in
theorem block_c {W : World} {F : Snap} {cs : List Res} {b : Nat} {ad : Addr} {cap : Nat} {bs : List UInt8} (w : World) (d : D8) (h : St W F ([(b, .cells ((d.list).map V32).toArray 95 (0, 0))] :: cs) w) (hrd : ∀ i x, bs[i]? = some x → cellF F (ad.add i) = some (V8 x)) (hl : bs.length = 64) : Calls Try.prog 69 #[.pointer (some ⟨b, 0, none⟩), .slice (some ad) bs.length cap] w fun e w' => e = .returned (.tuple #[]) ∧ St W F ([(b, .cells (((ShaM.block d bs).list).map V32).toArray 95 (0, 0))] :: cs) w'  := by
  refine enter (P := Try.prog) (args := [.pointer (some ⟨b, 0, none⟩), .slice (some ad) bs.length cap]) Try.func69 rfl rfl rfl ?_
  refine WC.seq ?_
  refine WC.reg ?_
  refine WL.v (Runs.move rfl) rfl ?_
  refine WL.call can73 rfl rfl (schedule_c _ h hrd hl) ?_
  rintro _ w1 ⟨rfl, h1⟩
  refine ⟨_, rfl, ?_⟩
  refine WL.call can74 rfl rfl (constants_c _ h1) ?_
  rintro _ w2 ⟨rfl, h2⟩
  refine ⟨_, rfl, ?_⟩
  refine WL.alloc' rfl h2 inf104 ?_
  intro b4 w3 h3
  refine WL.alloc' rfl h3 inf104 ?_
  intro b5 w4 h4
  refine WL.storeAll h4 1 rfl rfl rfl inf104 (by simp [ShaM.sched_len]) (by simp [ShaM.sched_len, Value.cells]) (by rw [List.all_eq_true]; intro v hv; simp at hv; obtain ⟨a, _, rfl⟩ := hv; rfl) (Free.zero _) ?_
  intro  w5 h5
  try simp only [List.set_cons_zero, List.set_cons_succ, List.eraseIdx_cons_zero, List.eraseIdx_cons_succ] at h5
  refine WL.storeAll h5 0 rfl rfl rfl inf104 rfl rfl rfl (Free.zero _) ?_
  intro  w6 h6
  try simp only [List.set_cons_zero, List.set_cons_succ, List.eraseIdx_cons_zero, List.eraseIdx_cons_succ] at h6
  refine WL.nil ?_
  refine WN.thn ?_
  refine WC.seq ?_
  refine WC.reg ?_
  refine WL.v (Runs.move rfl) rfl ?_
  refine WL.v (Runs.nilCheckP rfl) rfl ?_
  refine WL.v (Runs.loadAll h6 2 rfl Try.underlying95 rfl inf95 rfl rfl) rfl ?_
  refine WL.alloc' rfl h6 inf95 ?_
  intro b6 w7 h7
  refine WL.storeAll h7 0 rfl rfl rfl inf95 rfl rfl rfl (Free.zero _) ?_
  intro  w8 h8
  try simp only [List.set_cons_zero, List.set_cons_succ, List.eraseIdx_cons_zero, List.eraseIdx_cons_succ] at h8
  refine WL.nil ?_
  refine WN.thn ?_
  refine WC.seq ?_
  refine WC.seq ?_
  refine WC.reg ?_
  refine WL.v (Runs.move rfl) rfl ?_
  refine WL.nil ?_
  refine WN.thn ?_
  refine WC.block ?_
  refine WC.loop (σ := Nat) (fun i => [(0, .pointer (some ⟨b, 0, none⟩)), (4, .pointer (some ⟨b4, 0, none⟩)), (5, .pointer (some ⟨b5, 0, none⟩)), (6, .pointer (some ⟨b6, 0, none⟩)), (19, .int .i64 (i : Int))]) (fun i w => i ≤ 64 ∧ St W F ([(b6, .cells (((ShaM.rounds (ShaM.sched bs) i d).list).map V32).toArray 95 (0, 0))] :: [(b5, .cells ((ShaM.K).map V32).toArray 104 (0, 0))] :: [(b4, .cells ((ShaM.sched bs).map V32).toArray 104 (0, 0))] :: [(b, .cells ((d.list).map V32).toArray 95 (0, 0))] :: cs) w) (fun i => 64 - i) (0) ⟨rfl, rfl, rfl, rfl, rfl, trivial⟩ (⟨by omega, h8⟩) ?_
  rintro i w9 ⟨hi, hL⟩
  try dsimp only at hi hL
  refine WC.seq ?_
  refine WC.reg ?_
  refine WL.v (Runs.lss rfl rfl) rfl ?_
  refine WL.nil ?_
  refine WN.thn ?_
  refine WC.seq ?_
  refine WC.cond rfl (fun c10 => ?_) (fun c10 => ?_)
  · try simp only [decide_eq_true_eq, decide_eq_false_iff_not, Bool.not_eq_true', Bool.not_eq_false', Bool.and_eq_true, Int.not_lt, Int.not_le] at c10
    first
    | (exfalso; omega)
    | skip
      refine WC.skip ?_
      refine WN.thn ?_
      refine WC.seq ?_
      refine WC.block ?_
      refine WC.seq ?_
      refine WC.reg ?_
      refine WL.v (Runs.move rfl) rfl ?_
      refine WL.v (Runs.assign rfl) rfl ?_
      refine WL.nil ?_
      refine WN.thn ?_
      refine WC.seq ?_
      refine WC.qreg (C := fun w_ => St W F _ w_) mixed (by kernel_rfl) (hL.drew) ?_
      refine WQ.val (fun w_ hC_ => Runs.aidxN Try.underlying95 inf93 rfl rfl (n := 0) (by omega) (by omega)) rfl ?_
      refine WQ.val (fun w_ hC_ => Runs.loadArr (0 : Wd) hC_ 0 rfl (n := 0) (by show _ < 8; omega) Try.underlying93 rfl rfl) rfl ?_
      refine WQ.val (fun w_ hC_ => Runs.aidxN Try.underlying95 inf93 rfl rfl (n := 4) (by omega) (by omega)) rfl ?_
      refine WQ.val (fun w_ hC_ => Runs.loadArr (0 : Wd) hC_ 0 rfl (n := 4) (by show _ < 8; omega) Try.underlying93 rfl rfl) rfl ?_
      refine WQ.val (fun w_ hC_ => Runs.assign rfl) rfl ?_
      refine WQ.val (fun w_ hC_ => Runs.assign rfl) rfl ?_
      refine WQ.fin ?_
      intro w11 h11
      refine WN.thn ?_
      refine WC.seq ?_
      refine WC.qreg (C := fun w_ => St W F _ w_) mixed (by kernel_rfl) (h11.drew) ?_
      refine WQ.val (fun w_ hC_ => Runs.aidxN Try.underlying95 inf93 rfl rfl (n := 7) (by omega) (by omega)) rfl ?_
      refine WQ.val (fun w_ hC_ => Runs.loadArr (0 : Wd) hC_ 0 rfl (n := 7) (by show _ < 8; omega) Try.underlying93 rfl rfl) rfl ?_
      refine WQ.val (fun w_ hC_ => Runs.move rfl) rfl ?_
      refine WQ.call can75 rfl rfl (fun w_ hC_ => (rot_c _ _ _ (by decide)).mono fun e w1 he => ⟨he.1, by rw [he.2]; exact hC_⟩) ?_
      refine WQ.val (fun w_ hC_ => Runs.move rfl) rfl ?_
      refine WQ.call can75 rfl rfl (fun w_ hC_ => (rot_c _ _ _ (by decide)).mono fun e w1 he => ⟨he.1, by rw [he.2]; exact hC_⟩) ?_
      refine WQ.val (fun w_ hC_ => Runs.xor32 rfl rfl) rfl ?_
      refine WQ.val (fun w_ hC_ => Runs.move rfl) rfl ?_
      refine WQ.call can75 rfl rfl (fun w_ hC_ => (rot_c _ _ _ (by decide)).mono fun e w1 he => ⟨he.1, by rw [he.2]; exact hC_⟩) ?_
      refine WQ.val (fun w_ hC_ => Runs.xor32 rfl rfl) rfl ?_
      refine WQ.val (fun w_ hC_ => Runs.add32 rfl rfl) rfl ?_
      refine WQ.val (fun w_ hC_ => Runs.move rfl) rfl ?_
      refine WQ.val (fun w_ hC_ => Runs.aidxN Try.underlying95 inf93 rfl rfl (n := 5) (by omega) (by omega)) rfl ?_
      refine WQ.val (fun w_ hC_ => Runs.loadArr (0 : Wd) hC_ 0 rfl (n := 5) (by show _ < 8; omega) Try.underlying93 rfl rfl) rfl ?_
      refine WQ.val (fun w_ hC_ => Runs.and32 rfl rfl) rfl ?_
      refine WQ.val (fun w_ hC_ => Runs.move rfl) rfl ?_
      refine WQ.val (fun w_ hC_ => Runs.com32 rfl) rfl ?_
      refine WQ.val (fun w_ hC_ => Runs.aidxN Try.underlying95 inf93 rfl rfl (n := 6) (by omega) (by omega)) rfl ?_
      refine WQ.val (fun w_ hC_ => Runs.loadArr (0 : Wd) hC_ 0 rfl (n := 6) (by show _ < 8; omega) Try.underlying93 rfl rfl) rfl ?_
      refine WQ.val (fun w_ hC_ => Runs.and32 rfl rfl) rfl ?_
      refine WQ.val (fun w_ hC_ => Runs.xor32 rfl rfl) rfl ?_
      refine WQ.val (fun w_ hC_ => Runs.add32 rfl rfl) rfl ?_
      refine WQ.val (fun w_ hC_ => Runs.move rfl) rfl ?_
      refine WQ.val (fun w_ hC_ => Runs.aidxN Try.underlying104 inf93 rfl rfl (n := i) (by omega) (by omega)) rfl ?_
      refine WQ.val (fun w_ hC_ => Runs.loadArr (0 : Wd) hC_ 1 rfl (n := i) (by show _ < 64; omega) Try.underlying93 rfl rfl) rfl ?_
      refine WQ.val (fun w_ hC_ => Runs.add32 rfl rfl) rfl ?_
      refine WQ.val (fun w_ hC_ => Runs.move rfl) rfl ?_
      refine WQ.val (fun w_ hC_ => Runs.aidxN Try.underlying104 inf93 rfl rfl (n := i) (by omega) (by omega)) rfl ?_
      refine WQ.val (fun w_ hC_ => Runs.loadArr (0 : Wd) hC_ 2 rfl (n := i) (by rw [ShaM.sched_len]; omega) Try.underlying93 rfl rfl) rfl ?_
      refine WQ.val (fun w_ hC_ => Runs.add32 rfl rfl) rfl ?_
      refine WQ.val (fun w_ hC_ => Runs.assign rfl) rfl ?_
      refine WQ.fin ?_
      intro w12 h12
      refine WN.thn ?_
      refine WC.seq ?_
      refine WC.qreg (C := fun w_ => St W F _ w_) mixed (by kernel_rfl) (h12.drew) ?_
      refine WQ.val (fun w_ hC_ => Runs.move rfl) rfl ?_
      refine WQ.call can75 rfl rfl (fun w_ hC_ => (rot_c _ _ _ (by decide)).mono fun e w1 he => ⟨he.1, by rw [he.2]; exact hC_⟩) ?_
      refine WQ.val (fun w_ hC_ => Runs.move rfl) rfl ?_
      refine WQ.call can75 rfl rfl (fun w_ hC_ => (rot_c _ _ _ (by decide)).mono fun e w1 he => ⟨he.1, by rw [he.2]; exact hC_⟩) ?_
      refine WQ.val (fun w_ hC_ => Runs.xor32 rfl rfl) rfl ?_
      refine WQ.val (fun w_ hC_ => Runs.move rfl) rfl ?_
      refine WQ.call can75 rfl rfl (fun w_ hC_ => (rot_c _ _ _ (by decide)).mono fun e w1 he => ⟨he.1, by rw [he.2]; exact hC_⟩) ?_
      refine WQ.val (fun w_ hC_ => Runs.xor32 rfl rfl) rfl ?_
      refine WQ.val (fun w_ hC_ => Runs.move rfl) rfl ?_
      refine WQ.val (fun w_ hC_ => Runs.aidxN Try.underlying95 inf93 rfl rfl (n := 1) (by omega) (by omega)) rfl ?_
      refine WQ.val (fun w_ hC_ => Runs.loadArr (0 : Wd) hC_ 0 rfl (n := 1) (by show _ < 8; omega) Try.underlying93 rfl rfl) rfl ?_
      refine WQ.val (fun w_ hC_ => Runs.and32 rfl rfl) rfl ?_
      refine WQ.val (fun w_ hC_ => Runs.move rfl) rfl ?_
      refine WQ.val (fun w_ hC_ => Runs.aidxN Try.underlying95 inf93 rfl rfl (n := 2) (by omega) (by omega)) rfl ?_
      refine WQ.val (fun w_ hC_ => Runs.loadArr (0 : Wd) hC_ 0 rfl (n := 2) (by show _ < 8; omega) Try.underlying93 rfl rfl) rfl ?_
      refine WQ.val (fun w_ hC_ => Runs.and32 rfl rfl) rfl ?_
      refine WQ.val (fun w_ hC_ => Runs.xor32 rfl rfl) rfl ?_
      refine WQ.val (fun w_ hC_ => Runs.aidxN Try.underlying95 inf93 rfl rfl (n := 1) (by omega) (by omega)) rfl ?_
      refine WQ.val (fun w_ hC_ => Runs.loadArr (0 : Wd) hC_ 0 rfl (n := 1) (by show _ < 8; omega) Try.underlying93 rfl rfl) rfl ?_
      refine WQ.val (fun w_ hC_ => Runs.aidxN Try.underlying95 inf93 rfl rfl (n := 2) (by omega) (by omega)) rfl ?_
      refine WQ.val (fun w_ hC_ => Runs.loadArr (0 : Wd) hC_ 0 rfl (n := 2) (by show _ < 8; omega) Try.underlying93 rfl rfl) rfl ?_
      refine WQ.val (fun w_ hC_ => Runs.and32 rfl rfl) rfl ?_
      refine WQ.val (fun w_ hC_ => Runs.xor32 rfl rfl) rfl ?_
      refine WQ.val (fun w_ hC_ => Runs.add32 rfl rfl) rfl ?_
      refine WQ.val (fun w_ hC_ => Runs.assign rfl) rfl ?_
      refine WQ.fin ?_
      intro w13 h13
      refine WN.thn ?_
      refine WC.seq ?_
      refine WC.dreg (fun w_ => St W F _ w_) (fun k => Nat.beq k 2) mixed (by kernel_rfl) (h13.drew) (fun hx => ?_)
      refine WM.pure hx (by rfl) rfl (fun w_ => Runs.asl Try.underlying95 inf93 rfl (l := some 1) (h := none) rfl rfl (okb_lo (by decide))) rfl ?_
      refine WM.pure hx (by rfl) rfl (fun w_ => Runs.asl Try.underlying95 inf93 rfl (l := none) (h := some 7) rfl rfl (okb_hi (by decide))) rfl ?_
      refine WM.toD hx rfl (by decide) (by kernel_rfl) ?_
      intro w14 h14
      refine WD.op (by rfl) rfl (by kernel_rfl) ?_
      refine WL.copy (m := 7) (off := 1) (len := 7) (cap := 7) (src := ((ShaM.rounds (ShaM.sched bs) i d).list.map V32).take 7) h14 0 rfl rfl Try.underlying108 (inf93.elem rfl rfl) rfl rfl rfl (first_own h14 0 rfl 7 7 8 (Nat.le_of_ble_eq_true rfl)) rfl (Free.zero _) (Nat.le_of_ble_eq_true rfl) ?_
      intro  w15 h15
      try simp only [List.set_cons_zero, List.set_cons_succ, List.eraseIdx_cons_zero, List.eraseIdx_cons_succ] at h15
      refine WL.nil ?_
      refine WD.next ?_
      refine WD.fin rfl (by kernel_rfl) ?_
      refine WN.thn ?_
      refine WC.seq ?_
      refine WC.reg ?_
      replace h15 : St W F ([(b6, .cells ((([(ShaM.rounds (ShaM.sched bs) i d).a, (ShaM.rounds (ShaM.sched bs) i d).a, (ShaM.rounds (ShaM.sched bs) i d).b, (ShaM.rounds (ShaM.sched bs) i d).c, (ShaM.rounds (ShaM.sched bs) i d).d, (ShaM.rounds (ShaM.sched bs) i d).e, (ShaM.rounds (ShaM.sched bs) i d).f, (ShaM.rounds (ShaM.sched bs) i d).g] : List Wd)).map V32).toArray 95 (0, 0))] :: [(b5, .cells ((ShaM.K).map V32).toArray 104 (0, 0))] :: [(b4, .cells ((ShaM.sched bs).map V32).toArray 104 (0, 0))] :: [(b, .cells ((d.list).map V32).toArray 95 (0, 0))] :: cs) w15 := h15
      refine WL.v (Runs.aidxN Try.underlying95 inf93 rfl rfl (n := 4) (by omega) (by omega)) rfl ?_
      refine WL.v (Runs.loadArr (0 : Wd) h15 0 rfl (n := 4) (by show _ < 8; omega) Try.underlying93 rfl rfl) rfl ?_
      refine WL.v (Runs.move rfl) rfl ?_
      refine WL.v (Runs.add32 rfl rfl) rfl ?_
      refine WL.v (Runs.aidxN Try.underlying95 inf93 rfl rfl (n := 4) (by omega) (by omega)) rfl ?_
      refine WL.storeArr h15 0 rfl rfl rfl inf93 rfl rfl (Free.zero _) (by show _ < 8; omega) ?_
      intro  w16 h16
      try simp only [List.set_cons_zero, List.set_cons_succ, List.eraseIdx_cons_zero, List.eraseIdx_cons_succ] at h16
      refine WL.nil ?_
      refine WN.thn ?_
      refine WC.reg ?_
      refine WL.v (Runs.move rfl) rfl ?_
      refine WL.v (Runs.move rfl) rfl ?_
      refine WL.v (Runs.add32 rfl rfl) rfl ?_
      refine WL.v (Runs.aidxN Try.underlying95 inf93 rfl rfl (n := 0) (by omega) (by omega)) rfl ?_
      refine WL.storeArr h16 0 rfl rfl rfl inf93 rfl rfl (Free.zero _) (by show _ < 8; omega) ?_
      intro  w17 h17
      try simp only [List.set_cons_zero, List.set_cons_succ, List.eraseIdx_cons_zero, List.eraseIdx_cons_succ] at h17
      refine WL.nil ?_
      refine WN.blk ?_
      refine WN.thn ?_
      refine WC.reg ?_
      refine WL.v (Runs.addn rfl rfl (by omega)) rfl ?_
      refine WL.v (Runs.move rfl) rfl ?_
      refine WL.nil ?_
      exact WN.again (i + 1) (by omega) ⟨rfl, rfl, rfl, rfl, rfl, trivial⟩ ⟨by omega, h17⟩
  · try simp only [decide_eq_true_eq, decide_eq_false_iff_not, Bool.not_eq_true', Bool.not_eq_false', Bool.and_eq_true, Int.not_lt, Int.not_le] at c10
    first
    | (exfalso; omega)
    | skip
      refine WC.exit ?_
      refine WX.thn ?_
      refine WX.cut ?_
      refine WX.hit ?_
      refine WN.thn ?_
      refine WC.seq ?_
      refine WC.reg ?_
      refine WL.v (Runs.move rfl) rfl ?_
      refine WL.nil ?_
      refine WN.thn ?_
      refine WC.block ?_
      refine WC.loop (σ := Nat) (fun j => [(0, .pointer (some ⟨b, 0, none⟩)), (6, .pointer (some ⟨b6, 0, none⟩)), (93, .int .i64 (j : Int))]) (fun j w => j ≤ 8 ∧ St W F ([(b6, .cells (((ShaM.rounds (ShaM.sched bs) 64 d).list).map V32).toArray 95 (0, 0))] :: [(b5, .cells ((ShaM.K).map V32).toArray 104 (0, 0))] :: [(b4, .cells ((ShaM.sched bs).map V32).toArray 104 (0, 0))] :: [(b, .cells ((ShaM.part d (ShaM.rounds (ShaM.sched bs) 64 d) j).map V32).toArray 95 (0, 0))] :: cs) w) (fun j => 8 - j) (0) ⟨rfl, rfl, rfl, trivial⟩ (⟨by omega, by obtain rfl : i = 64 := (by omega); exact hL⟩) ?_
      rintro j w18 ⟨hj, hL⟩
      try dsimp only at hj hL
      refine WC.seq ?_
      refine WC.reg ?_
      refine WL.v (Runs.lss rfl rfl) rfl ?_
      refine WL.nil ?_
      refine WN.thn ?_
      refine WC.seq ?_
      refine WC.cond rfl (fun c19 => ?_) (fun c19 => ?_)
      · try simp only [decide_eq_true_eq, decide_eq_false_iff_not, Bool.not_eq_true', Bool.not_eq_false', Bool.and_eq_true, Int.not_lt, Int.not_le] at c19
        first
        | (exfalso; omega)
        | skip
          refine WC.skip ?_
          refine WN.thn ?_
          refine WC.seq ?_
          refine WC.block ?_
          refine WC.seq ?_
          refine WC.reg ?_
          refine WL.v (Runs.move rfl) rfl ?_
          refine WL.v (Runs.assign rfl) rfl ?_
          refine WL.nil ?_
          refine WN.thn ?_
          refine WC.dreg (fun w_ => St W F _ w_) (fun k => Nat.beq k 11) mixed (by kernel_rfl) (hL.drew) (fun hx => ?_)
          refine WM.pure hx (by rfl) rfl (fun w_ => Runs.move rfl) rfl ?_
          refine WM.pure hx (by rfl) rfl (fun w_ => Runs.move rfl) rfl ?_
          refine WM.pure hx (by rfl) rfl (fun w_ => Runs.nilCheckP rfl) rfl ?_
          refine WM.pure hx (by rfl) rfl (fun w_ => Runs.aidxN Try.underlying95 inf93 rfl rfl (n := j) (by omega) (by omega)) rfl ?_
          refine WM.val 3 hx (by rfl) rfl (by kernel_rfl) (fun w_ hC_ => Runs.loadArr (0 : Wd) hC_ 3 rfl (n := j) (by rw [ShaM.part_len _ _ (by omega)]; omega) Try.underlying93 rfl rfl) rfl ?_
          refine WM.pure hx (by rfl) rfl (fun w_ => Runs.move rfl) rfl ?_
          refine WM.pure hx (by rfl) rfl (fun w_ => Runs.aidxN Try.underlying95 inf93 rfl rfl (n := j) (by omega) (by omega)) rfl ?_
          refine WM.val 3 hx (by rfl) rfl (by kernel_rfl) (fun w_ hC_ => Runs.loadArr (0 : Wd) hC_ 0 rfl (n := j) (by show _ < 8; omega) Try.underlying93 rfl rfl) rfl ?_
          refine WM.pure hx (by rfl) rfl (fun w_ => Runs.add32 rfl rfl) rfl ?_
          refine WM.pure hx (by rfl) rfl (fun w_ => Runs.nilCheckP rfl) rfl ?_
          refine WM.pure hx (by rfl) rfl (fun w_ => Runs.aidxN Try.underlying95 inf93 rfl rfl (n := j) (by omega) (by omega)) rfl ?_
          refine WM.toD hx rfl (by decide) (by kernel_rfl) ?_
          intro w20 h20
          refine WD.op (by rfl) rfl (by kernel_rfl) ?_
          refine WL.storeArr h20 3 rfl rfl rfl inf93 rfl rfl (Free.zero _) (by rw [ShaM.part_len _ _ (by omega)]; omega) ?_
          intro  w21 h21
          try simp only [List.set_cons_zero, List.set_cons_succ, List.eraseIdx_cons_zero, List.eraseIdx_cons_succ] at h21
          refine WL.nil ?_
          refine WD.next ?_
          refine WD.fin rfl (by kernel_rfl) ?_
          refine WN.blk ?_
          refine WN.thn ?_
          refine WC.reg ?_
          refine WL.v (Runs.addn rfl rfl (by omega)) rfl ?_
          refine WL.v (Runs.move rfl) rfl ?_
          refine WL.nil ?_
          refine WN.again (j + 1) (by omega) ⟨rfl, rfl, rfl, trivial⟩ ⟨by omega, ?_⟩
          rw [← ShaM.part_set _ _ (by omega), ← ShaM.part_at d (ShaM.rounds (ShaM.sched bs) 64 d) (by omega)]
          exact h21
      · try simp only [decide_eq_true_eq, decide_eq_false_iff_not, Bool.not_eq_true', Bool.not_eq_false', Bool.and_eq_true, Int.not_lt, Int.not_le] at c19
        first
        | (exfalso; omega)
        | skip
          refine WC.exit ?_
          refine WX.thn ?_
          refine WX.cut ?_
          refine WX.hit ?_
          obtain rfl : j = 8 := by omega
          refine end0 rfl ⟨rfl, ?_⟩
          have e : (ShaM.block d bs).list = ShaM.part d (ShaM.rounds (ShaM.sched bs) 64 d) 8 := D8.list_of (ShaM.part_len _ _ (by omega))
          rw [e]
          exact ((hL.drop 0).drop 0).drop 0
end Sha
end Go.Proofs.Ytbkfjedecepfoaa
