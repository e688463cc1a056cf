/- Walks of the reference of chapter 16: Decide, Exit, Asks, Same. -/
import Derived.Test.YtanlminnobonnaaProg
import Derived.KernelRfl
import Derived.Test.YtanlminnobonnaaMBaseAH
import Derived.Test.YtanlminnobonnaaMN5
namespace Go.Proofs.Ytanlminnobonnaa
open Go Go.RowKit B
set_option linter.unusedVariables false
set_option linter.unusedSimpArgs false
namespace Rc

theorem inf31 : Inf Try.prog 31 (.agg #[.int .i64 0, .slice none 0 0, .int .i64 0, .bool false]) 4 48 := by unfold Inf; kernel_rfl
theorem can34 : B.Can Try.prog 34 := ⟨_, Try.func34, by kernel_rfl, rfl⟩   -- roundhouse/roundhouseref16.prolog
theorem can35 : B.Can Try.prog 35 := ⟨_, Try.func35, by kernel_rfl, rfl⟩   -- roundhouse/roundhouseref16.launch
theorem can36 : B.Can Try.prog 36 := ⟨_, Try.func36, by kernel_rfl, rfl⟩   -- roundhouse/roundhouseref16.turn
theorem can37 : B.Can Try.prog 37 := ⟨_, Try.func37, by kernel_rfl, rfl⟩   -- roundhouse/roundhouseref16.finish
theorem can38 : B.Can Try.prog 38 := ⟨_, Try.func38, by kernel_rfl, rfl⟩   -- roundhouse/roundhouseref15.Recs
theorem can47 : B.Can Try.prog 47 := ⟨_, Try.func47, by kernel_rfl, rfl⟩   -- roundhouse/roundhouseref14.Worst
theorem can62 : B.Can Try.prog 62 := ⟨_, Try.func62, by kernel_rfl, rfl⟩   -- roundhouse/roundhouseref02.Same
theorem six (P0 P1 P2 P3 P4 P5 : Prop) : (¬ P0) ∨ (P0 ∧ ¬ P1) ∨ (P0 ∧ P1 ∧ ¬ P2) ∨ (P0 ∧ P1 ∧ P2 ∧ ¬ P3) ∨ (P0 ∧ P1 ∧ P2 ∧ P3 ∧ ¬ P4) ∨ (P0 ∧ P1 ∧ P2 ∧ P3 ∧ P4 ∧ ¬ P5) ∨ (P0 ∧ P1 ∧ P2 ∧ P3 ∧ P4 ∧ P5) := by
  by_cases h0 : P0
  · by_cases h1 : P1
    · by_cases h2 : P2
      · by_cases h3 : P3
        · by_cases h4 : P4
          · by_cases h5 : P5
            · exact .inr (.inr (.inr (.inr (.inr (.inr (⟨h0, h1, h2, h3, h4, h5⟩))))))
            · exact .inr (.inr (.inr (.inr (.inr (.inl ⟨h0, h1, h2, h3, h4, h5⟩)))))
          · exact .inr (.inr (.inr (.inr (.inl ⟨h0, h1, h2, h3, h4⟩))))
        · exact .inr (.inr (.inr (.inl ⟨h0, h1, h2, h3⟩)))
      · exact .inr (.inr (.inl ⟨h0, h1, h2⟩))
    · exact .inr (.inl ⟨h0, h1⟩)
  · exact .inl h0

theorem fiveC (P0 P1 P2 P3 P4 : Prop) : (¬ P0) ∨ (P0 ∧ ¬ P1) ∨ (P0 ∧ P1 ∧ ¬ P2) ∨ (P0 ∧ P1 ∧ P2 ∧ ¬ P3) ∨ (P0 ∧ P1 ∧ P2 ∧ P3 ∧ ¬ P4) ∨ (P0 ∧ P1 ∧ P2 ∧ P3 ∧ P4) := by
  by_cases h0 : P0
  · by_cases h1 : P1
    · by_cases h2 : P2
      · by_cases h3 : P3
        · by_cases h4 : P4
          · exact .inr (.inr (.inr (.inr (.inr (⟨h0, h1, h2, h3, h4⟩)))))
          · exact .inr (.inr (.inr (.inr (.inl ⟨h0, h1, h2, h3, h4⟩))))
        · exact .inr (.inr (.inr (.inl ⟨h0, h1, h2, h3⟩)))
      · exact .inr (.inr (.inl ⟨h0, h1, h2⟩))
    · exact .inr (.inl ⟨h0, h1⟩)
  · exact .inl h0

theorem dec_turn {id : Int} {z : Z} {m : M} {f : Fc} (h : ¬ (¬ (0 ≤ id ∧ id ≤ 15) ∨ ¬ (0 ≤ f.cd ∧ f.cd ≤ 255) ∨ m.fr ≠ -1 ∨ m.to ≠ id)) (hk : m.kd = 4 ∨ m.kd = 5 ∨ m.kd = 7) : decideM id z m f = (turnA id z m, 0) := by
  unfold decideM turnA
  rw [if_neg h]
  rcases hk with hk | hk | hk <;> simp [hk]
theorem eqf_bytes {P : Program} {w : World} {xs ys : Array Value} {d : Nat} {f : Field} {fs : List Field} {s : Bool} {a b : ByteArray} (hn : (f.name == "_") = false) (hu : P.underlying f.type = some .string) (ha : xs[f.offset]? = some (.string a)) (hb : ys[f.offset]? = some (.string b)) (hr : (Op.eqFields (d + 1) xs ys fs).run P w = .ok s w) : (Op.eqFields (d + 1) xs ys (f :: fs)).run P w = .ok (decide (a = b) && s) w := by
  refine eqf_1 hn hu rfl ha hb ?_ hr
  have : (a == b) = decide (a = b) := by
    rw [beq_toListBytes, seq_toList]
  simp [Op.equalIn, underlying, program, hu, Sem.run, bind, Sem.bind, pure, this]
theorem eqMsg (w : World) (m n : M) : (Op.equalIn 10000 27 (.agg #[Vi m.kd, Vi m.fr, Vi m.to, Vi m.jb, Vi m.ep, Vi m.st, Vi m.ar, .string m.tx]) (.agg #[Vi n.kd, Vi n.fr, Vi n.to, Vi n.jb, Vi n.ep, Vi n.st, Vi n.ar, .string n.tx])).run Try.prog w = .ok (decide (m = n)) w := by
  have h : (Op.equalIn 10000 27 (.agg #[Vi m.kd, Vi m.fr, Vi m.to, Vi m.jb, Vi m.ep, Vi m.st, Vi m.ar, .string m.tx]) (.agg #[Vi n.kd, Vi n.fr, Vi n.to, Vi n.jb, Vi n.ep, Vi n.st, Vi n.ar, .string n.tx])).run Try.prog w = .ok (decide (m.kd = n.kd) && (decide (m.fr = n.fr) && (decide (m.to = n.to) && (decide (m.jb = n.jb) && (decide (m.ep = n.ep) && (decide (m.st = n.st) && (decide (m.ar = n.ar) && (decide (m.tx = n.tx) && true)))))))) w := by
    refine eqA_of (d := 9999) Try.underlying27 (by kernel_rfl) ?_
    exact eqf_int (d := 9998) rfl Try.underlying3 rfl rfl (eqf_int (d := 9998) rfl Try.underlying3 rfl rfl (eqf_int (d := 9998) rfl Try.underlying3 rfl rfl (eqf_int (d := 9998) rfl Try.underlying3 rfl rfl (eqf_int (d := 9998) rfl Try.underlying3 rfl rfl (eqf_int (d := 9998) rfl Try.underlying3 rfl rfl (eqf_int (d := 9998) rfl Try.underlying3 rfl rfl (eqf_bytes (d := 9998) rfl Try.underlying9 rfl rfl eqf_nil)))))))
  have e : (decide (m.kd = n.kd) && (decide (m.fr = n.fr) && (decide (m.to = n.to) && (decide (m.jb = n.jb) && (decide (m.ep = n.ep) && (decide (m.st = n.st) && (decide (m.ar = n.ar) && (decide (m.tx = n.tx) && true)))))))) = decide (m = n) := by
    rw [Bool.eq_iff_iff]
    cases m; cases n
    simp
  rw [h, e]
set_option maxRecDepth 100000 in
set_option maxHeartbeats 1000000 in
theorem same_c {W : World} {F : Snap} {cs : List Res} (w : World) {A B : Option Addr} {cap cap2 : Nat} {xs : List Int} (h : St W F cs w) (hA : RdS (Kd.one Vi) F A xs) (hB : RdS (Kd.one Vi) F B xs) (hn : xs.length ≤ 100000) : Calls Try.prog 62 #[.slice A xs.length cap, .slice B xs.length cap2] w fun e w' => e = .returned (.bool true) ∧ St W F cs w'  := by
  refine enter (P := Try.prog) (args := [.slice A xs.length cap, .slice B xs.length cap2]) Try.func62 rfl rfl rfl ?_
  refine WC.seq (WC.reg ?_)
  refine WL.v (Runs.assign rfl) rfl ?_
  refine WL.nil (WN.thn (WC.seq (WC.seq (WC.reg ?_))))
  refine WL.v (Runs.move rfl) rfl ?_
  refine WL.v (Runs.llen Try.underlying29 rfl rfl) rfl ?_
  refine WL.v (Runs.move rfl) rfl ?_
  refine WL.v (Runs.llen Try.underlying29 rfl rfl) rfl ?_
  refine WL.v (Runs.boolT (c := false) (Runs.neq rfl rfl) (by simp)) rfl ?_
  refine WL.nil (WN.thn ?_)
  refine WC.condF rfl (rfl) ?_
  refine WC.skip (WN.thn (WC.seq (WC.seq (WC.reg ?_))))
  refine WL.v (Runs.assign rfl) rfl ?_
  refine WL.nil (WN.thn (WC.block ?_))
  refine WC.loop (σ := Nat) (fun q_ => [(0, .slice A xs.length cap), (1, .slice B xs.length cap2), (5, .int .i64 (q_ : Int))]) (fun q_ w => q_ ≤ xs.length ∧ St W F cs w) (fun q_ => xs.length - q_) (0) (by repeat (first | exact trivial | refine ⟨rfl, ?_⟩)) (⟨by omega, h⟩) ?_
  rintro i w1 ⟨hi, hL⟩
  try dsimp only at hi hL
  refine WC.sub (s := [(0, .slice A xs.length cap), (1, .slice B xs.length cap2), (5, .int .i64 (i : Int))]) (by repeat (first | exact trivial | refine ⟨rfl, ?_⟩)) ?_
  refine WC.seq (WC.seq (WC.reg ?_))
  refine WL.v (Runs.move rfl) rfl ?_
  refine WL.v (Runs.move rfl) rfl ?_
  refine WL.v (Runs.llen Try.underlying29 rfl rfl) rfl ?_
  refine WL.v (Runs.lss rfl rfl) rfl ?_
  refine WL.nil (WN.thn ?_)
  refine WC.cond rfl (fun c2 => ?_) (fun c2 => ?_)
  · try simp only [dt, df, nt, nf, ba, il, ie] at c2
    first
    | (exfalso; omega)
    | skip
      refine WC.skip (WN.thn (WC.seq (WC.block (WC.seq ?_))))
      obtain ⟨a1, rfl, hra⟩ := rd1 hA (by omega)
      obtain ⟨b1, rfl, hrb⟩ := rd1 hB (by omega)
      refine WC.qreg (C := fun w_ => St W F _ w_) mixed (by kernel_rfl) (hL.drew) ?_
      refine WQ.val (fun w_ hC_ => Runs.move rfl) rfl ?_
      refine WQ.val (fun w_ hC_ => Runs.move rfl) rfl ?_
      refine WQ.val (fun w_ hC_ => Runs.lidxN Try.underlying29 inf3 rfl rfl (n := i) rfl (by omega)) rfl ?_
      refine WQ.val (fun w_ hC_ => Runs.loadR (f := Vi) (0 : Int) hC_ hra (n := i) (by omega) Try.underlying3 rfl rfl) rfl ?_
      refine WQ.val (fun w_ hC_ => Runs.move rfl) rfl ?_
      refine WQ.val (fun w_ hC_ => Runs.move rfl) rfl ?_
      refine WQ.val (fun w_ hC_ => Runs.lidxN Try.underlying29 inf3 rfl rfl (n := i) rfl (by omega)) rfl ?_
      refine WQ.val (fun w_ hC_ => Runs.loadR (f := Vi) (0 : Int) hC_ hrb (n := i) (by omega) Try.underlying3 rfl rfl) rfl ?_
      refine WQ.val (fun w_ hC_ => Runs.boolT (c := false) (Runs.neq rfl rfl) (by simp)) rfl ?_
      refine WQ.fin ?_
      intro w3 h3
      refine WN.thn ?_
      refine WC.condF rfl (rfl) ?_
      refine WC.skip (WN.blk (WN.thn (WC.reg ?_)))
      refine WL.v (Runs.move rfl) rfl ?_
      refine WL.v (Runs.addn rfl rfl (by omega)) rfl ?_
      refine WL.v (Runs.assign rfl) rfl ?_
      refine WL.nil ?_
      exact WN.again (i + 1) (by omega) ⟨rfl, rfl, rfl, trivial⟩ ⟨by omega, h3⟩
  · try simp only [dt, df, nt, nf, ba, il, ie] at c2
    first
    | (exfalso; omega)
    | skip
      refine WC.exit (WX.thn (WX.cut (WX.hit (WN.thn (WC.seq ?_)))))
      refine WC.reg ?_
      refine WL.v (Runs.assign rfl) rfl ?_
      refine WL.nil (WN.thn (WC.ret ?_))
      exact ret1 rfl rfl ⟨rfl, hL⟩
set_option maxRecDepth 100000 in
set_option maxHeartbeats 8000000 in
theorem recs_c {W : World} {F : Snap} {cs : List Res} (w : World) {Al : Option Addr} {cl : Nat} {r : R} {Bl : Option Addr} {dl : Nat} (hl : RdS (Kd.one Vi) F Al r.ls) (hn : r.ls.length ≤ 100000) (hl2 : RdS (Kd.one Vi) F Bl r.ls) (h : St W F cs w) : Calls Try.prog 38 #[.agg #[Vi r.kd, Vi r.jb, Vi r.ep, Vi r.st, Vi r.ar, .slice Al r.ls.length cl], .agg #[Vi r.kd, Vi r.jb, Vi r.ep, Vi r.st, Vi r.ar, .slice Bl r.ls.length dl]] w fun e w' => e = .returned (.bool true) ∧ St W F cs w'  := by
  refine enter (P := Try.prog) (args := [.agg #[Vi r.kd, Vi r.jb, Vi r.ep, Vi r.st, Vi r.ar, .slice Al r.ls.length cl], .agg #[Vi r.kd, Vi r.jb, Vi r.ep, Vi r.st, Vi r.ar, .slice Bl r.ls.length dl]]) Try.func38 rfl rfl rfl ?_
  refine WC.seq (WC.reg ?_)
  refine WL.box rfl h rfl ?_
  intro b2 w1 h1
  refine WL.box rfl h1 rfl ?_
  intro b3 w2 h2
  refine WL.v (Runs.assign rfl) rfl ?_
  refine WL.nil (WN.thn (WC.seq (WC.reg ?_)))
  refine WL.v (Runs.fld fld37_0 rfl) rfl ?_
  refine WL.v (Runs.load1 Try.underlying3 rfl rfl (h2.ocell (i := 1) rfl rfl)) rfl ?_
  refine WL.v (Runs.fld fld37_0 rfl) rfl ?_
  refine WL.v (Runs.load1 Try.underlying3 rfl rfl (h2.ocell (i := 0) rfl rfl)) rfl ?_
  refine WL.v (Runs.boolT (c := true) (Runs.eql rfl rfl) (decide_eq_true rfl)) rfl ?_
  refine WL.v (Runs.move rfl) rfl ?_
  refine WL.gon rfl rfl rfl ?_
  refine WL.v (Runs.fld fld37_1 rfl) rfl ?_
  refine WL.gon rfl rfl rfl ?_
  refine WL.v (Runs.load1 Try.underlying3 rfl rfl (h2.ocell (i := 1) rfl rfl)) rfl ?_
  refine WL.gon rfl rfl rfl ?_
  refine WL.v (Runs.fld fld37_1 rfl) rfl ?_
  refine WL.gon rfl rfl rfl ?_
  refine WL.v (Runs.load1 Try.underlying3 rfl rfl (h2.ocell (i := 0) rfl rfl)) rfl ?_
  refine WL.gon rfl rfl rfl ?_
  refine WL.v (Runs.boolT (c := true) (Runs.eql rfl rfl) (decide_eq_true rfl)) rfl ?_
  refine WL.v (Runs.pick rfl rfl rfl) rfl ?_
  refine WL.v (Runs.move rfl) rfl ?_
  refine WL.gon rfl rfl rfl ?_
  refine WL.v (Runs.fld fld37_2 rfl) rfl ?_
  refine WL.gon rfl rfl rfl ?_
  refine WL.v (Runs.load1 Try.underlying3 rfl rfl (h2.ocell (i := 1) rfl rfl)) rfl ?_
  refine WL.gon rfl rfl rfl ?_
  refine WL.v (Runs.fld fld37_2 rfl) rfl ?_
  refine WL.gon rfl rfl rfl ?_
  refine WL.v (Runs.load1 Try.underlying3 rfl rfl (h2.ocell (i := 0) rfl rfl)) rfl ?_
  refine WL.gon rfl rfl rfl ?_
  refine WL.v (Runs.boolT (c := true) (Runs.eql rfl rfl) (decide_eq_true rfl)) rfl ?_
  refine WL.v (Runs.pick rfl rfl rfl) rfl ?_
  refine WL.v (Runs.move rfl) rfl ?_
  refine WL.gon rfl rfl rfl ?_
  refine WL.v (Runs.fld fld37_3 rfl) rfl ?_
  refine WL.gon rfl rfl rfl ?_
  refine WL.v (Runs.load1 Try.underlying3 rfl rfl (h2.ocell (i := 1) rfl rfl)) rfl ?_
  refine WL.gon rfl rfl rfl ?_
  refine WL.v (Runs.fld fld37_3 rfl) rfl ?_
  refine WL.gon rfl rfl rfl ?_
  refine WL.v (Runs.load1 Try.underlying3 rfl rfl (h2.ocell (i := 0) rfl rfl)) rfl ?_
  refine WL.gon rfl rfl rfl ?_
  refine WL.v (Runs.boolT (c := true) (Runs.eql rfl rfl) (decide_eq_true rfl)) rfl ?_
  refine WL.v (Runs.pick rfl rfl rfl) rfl ?_
  refine WL.v (Runs.move rfl) rfl ?_
  refine WL.gon rfl rfl rfl ?_
  refine WL.v (Runs.fld fld37_4 rfl) rfl ?_
  refine WL.gon rfl rfl rfl ?_
  refine WL.v (Runs.load1 Try.underlying3 rfl rfl (h2.ocell (i := 1) rfl rfl)) rfl ?_
  refine WL.gon rfl rfl rfl ?_
  refine WL.v (Runs.fld fld37_4 rfl) rfl ?_
  refine WL.gon rfl rfl rfl ?_
  refine WL.v (Runs.load1 Try.underlying3 rfl rfl (h2.ocell (i := 0) rfl rfl)) rfl ?_
  refine WL.gon rfl rfl rfl ?_
  refine WL.v (Runs.boolT (c := true) (Runs.eql rfl rfl) (decide_eq_true rfl)) rfl ?_
  refine WL.v (Runs.pick rfl rfl rfl) rfl ?_
  refine WL.v (Runs.move rfl) rfl ?_
  refine WL.gon rfl rfl rfl ?_
  refine WL.v (Runs.fld fld37_5 rfl) rfl ?_
  refine WL.gon rfl rfl rfl ?_
  refine WL.v (Runs.load1 Try.underlying29 rfl rfl (h2.ocell (i := 1) rfl rfl)) rfl ?_
  refine WL.gon rfl rfl rfl ?_
  refine WL.v (Runs.fld fld37_5 rfl) rfl ?_
  refine WL.gon rfl rfl rfl ?_
  refine WL.v (Runs.load1 Try.underlying29 rfl rfl (h2.ocell (i := 0) rfl rfl)) rfl ?_
  refine WL.gon rfl rfl rfl ?_
  refine WL.call can62 rfl rfl (same_c _ h2 hl hl2 hn) ?_
  rintro _ w3 ⟨rfl, h3⟩
  refine ⟨_, rfl, ?_⟩
  refine WL.v (Runs.pick rfl rfl rfl) rfl ?_
  refine WL.v (Runs.assign rfl) rfl ?_
  refine WL.nil (WN.thn (WC.ret ?_))
  exact ret1 rfl rfl ⟨rfl, ((h3.drop 0).drop 0)⟩
set_option maxRecDepth 100000 in
set_option maxHeartbeats 16000000 in
theorem same16_c {W : World} {F : Snap} {cs : List Res} (w : World) {Aa Ab : Option Addr} {ca cb : Nat} {a : Ac} (hla : RdS (Kd.one Vi) F Aa a.rc.ls) (hlb : RdS (Kd.one Vi) F Ab a.rc.ls) (hn : a.rc.ls.length ≤ 100000) (h : St W F cs w) : Calls Try.prog 15 #[.agg (acv Aa ca a), .agg (acv Ab cb a)] w fun e w' => e = .returned (.bool true) ∧ St W F cs w'  := by
  refine enter (P := Try.prog) (args := [.agg (acv Aa ca a), .agg (acv Ab cb a)]) Try.func15 rfl rfl rfl ?_
  refine WC.seq (WC.reg ?_)
  refine WL.box rfl h rfl ?_
  intro b2 w1 h1
  refine WL.box rfl h1 rfl ?_
  intro b3 w2 h2
  refine WL.v (Runs.assign rfl) rfl ?_
  refine WL.nil (WN.thn (WC.seq (WC.reg ?_)))
  refine WL.v (Runs.fld fld49_0 rfl) rfl ?_
  refine WL.v (Runs.load1 Try.underlying4 rfl rfl (h2.ocell (i := 1) rfl rfl)) rfl ?_
  refine WL.v (Runs.fld fld49_0 rfl) rfl ?_
  refine WL.v (Runs.load1 Try.underlying4 rfl rfl (h2.ocell (i := 0) rfl rfl)) rfl ?_
  refine WL.v (Runs.boolT (c := true) (Runs.eqlb Try.underlying4 rfl rfl) (by simp)) rfl ?_
  refine WL.v (Runs.move rfl) rfl ?_
  refine WL.gon rfl rfl rfl ?_
  refine WL.v (Runs.fld fld49_1 rfl) rfl ?_
  refine WL.gon rfl rfl rfl ?_
  refine WL.v (Runs.loadPart (vs := #[Vi a.rc.kd, Vi a.rc.jb, Vi a.rc.ep, Vi a.rc.st, Vi a.rc.ar, .slice Aa a.rc.ls.length ca]) h2 1 rfl Try.underlying37 rfl inf37 rfl (by kernel_rfl) rfl) rfl ?_
  refine WL.gon rfl rfl rfl ?_
  refine WL.v (Runs.fld fld49_1 rfl) rfl ?_
  refine WL.gon rfl rfl rfl ?_
  refine WL.v (Runs.loadPart (vs := #[Vi a.rc.kd, Vi a.rc.jb, Vi a.rc.ep, Vi a.rc.st, Vi a.rc.ar, .slice Ab a.rc.ls.length cb]) h2 0 rfl Try.underlying37 rfl inf37 rfl (by kernel_rfl) rfl) rfl ?_
  refine WL.gon rfl rfl rfl ?_
  refine WL.call can38 rfl rfl ((show Calls _ _ #[.agg #[Vi a.rc.kd, Vi a.rc.jb, Vi a.rc.ep, Vi a.rc.st, Vi a.rc.ar, .slice Aa a.rc.ls.length ca], .agg #[Vi a.rc.kd, Vi a.rc.jb, Vi a.rc.ep, Vi a.rc.st, Vi a.rc.ar, .slice Ab a.rc.ls.length cb]] _ _ from recs_c (r := a.rc) _ hla hn hlb h2)) ?_
  rintro _ w3 ⟨rfl, h3⟩
  refine ⟨_, rfl, ?_⟩
  refine WL.v (Runs.pick rfl rfl rfl) rfl ?_
  refine WL.v (Runs.move rfl) rfl ?_
  refine WL.gon rfl rfl rfl ?_
  refine WL.v (Runs.fld fld49_2 rfl) rfl ?_
  refine WL.gon rfl rfl rfl ?_
  refine WL.v (Runs.load1 Try.underlying4 rfl rfl (h3.ocell (i := 1) rfl rfl)) rfl ?_
  refine WL.gon rfl rfl rfl ?_
  refine WL.v (Runs.fld fld49_2 rfl) rfl ?_
  refine WL.gon rfl rfl rfl ?_
  refine WL.v (Runs.load1 Try.underlying4 rfl rfl (h3.ocell (i := 0) rfl rfl)) rfl ?_
  refine WL.gon rfl rfl rfl ?_
  refine WL.v (Runs.boolT (c := true) (Runs.eqlb Try.underlying4 rfl rfl) (by simp)) rfl ?_
  refine WL.v (Runs.pick rfl rfl rfl) rfl ?_
  refine WL.v (Runs.move rfl) rfl ?_
  refine WL.gon rfl rfl rfl ?_
  refine WL.v (Runs.fld fld49_3 rfl) rfl ?_
  refine WL.gon rfl rfl rfl ?_
  refine WL.v (Runs.loadPart (vs := #[Vi a.rp.kd, Vi a.rp.fr, Vi a.rp.to, Vi a.rp.jb, Vi a.rp.ep, Vi a.rp.st, Vi a.rp.ar, .string a.rp.tx]) h3 1 rfl Try.underlying27 rfl inf27 rfl (by kernel_rfl) rfl) rfl ?_
  refine WL.gon rfl rfl rfl ?_
  refine WL.v (Runs.fld fld49_3 rfl) rfl ?_
  refine WL.gon rfl rfl rfl ?_
  refine WL.v (Runs.loadPart (vs := #[Vi a.rp.kd, Vi a.rp.fr, Vi a.rp.to, Vi a.rp.jb, Vi a.rp.ep, Vi a.rp.st, Vi a.rp.ar, .string a.rp.tx]) h3 0 rfl Try.underlying27 rfl inf27 rfl (by kernel_rfl) rfl) rfl ?_
  refine WL.gon rfl rfl rfl ?_
  refine WL.v (Runs.boolT (c := true) (Runs.aeql (by kernel_rfl) rfl rfl (eqMsg _ a.rp a.rp)) (decide_eq_true rfl)) rfl ?_
  refine WL.v (Runs.pick rfl rfl rfl) rfl ?_
  refine WL.v (Runs.move rfl) rfl ?_
  refine WL.gon rfl rfl rfl ?_
  refine WL.v (Runs.fld fld49_4 rfl) rfl ?_
  refine WL.gon rfl rfl rfl ?_
  refine WL.v (Runs.load1 Try.underlying4 rfl rfl (h3.ocell (i := 1) rfl rfl)) rfl ?_
  refine WL.gon rfl rfl rfl ?_
  refine WL.v (Runs.fld fld49_4 rfl) rfl ?_
  refine WL.gon rfl rfl rfl ?_
  refine WL.v (Runs.load1 Try.underlying4 rfl rfl (h3.ocell (i := 0) rfl rfl)) rfl ?_
  refine WL.gon rfl rfl rfl ?_
  refine WL.v (Runs.boolT (c := true) (Runs.eqlb Try.underlying4 rfl rfl) (by simp)) rfl ?_
  refine WL.v (Runs.pick rfl rfl rfl) rfl ?_
  refine WL.v (Runs.move rfl) rfl ?_
  refine WL.gon rfl rfl rfl ?_
  refine WL.v (Runs.fld fld49_5 rfl) rfl ?_
  refine WL.gon rfl rfl rfl ?_
  refine WL.v (Runs.load1 Try.underlying4 rfl rfl (h3.ocell (i := 1) rfl rfl)) rfl ?_
  refine WL.gon rfl rfl rfl ?_
  refine WL.v (Runs.fld fld49_5 rfl) rfl ?_
  refine WL.gon rfl rfl rfl ?_
  refine WL.v (Runs.load1 Try.underlying4 rfl rfl (h3.ocell (i := 0) rfl rfl)) rfl ?_
  refine WL.gon rfl rfl rfl ?_
  refine WL.v (Runs.boolT (c := true) (Runs.eqlb Try.underlying4 rfl rfl) (by simp)) rfl ?_
  refine WL.v (Runs.pick rfl rfl rfl) rfl ?_
  refine WL.v (Runs.move rfl) rfl ?_
  refine WL.gon rfl rfl rfl ?_
  refine WL.v (Runs.fld fld49_6 rfl) rfl ?_
  refine WL.gon rfl rfl rfl ?_
  refine WL.v (Runs.load1 Try.underlying4 rfl rfl (h3.ocell (i := 1) rfl rfl)) rfl ?_
  refine WL.gon rfl rfl rfl ?_
  refine WL.v (Runs.fld fld49_6 rfl) rfl ?_
  refine WL.gon rfl rfl rfl ?_
  refine WL.v (Runs.load1 Try.underlying4 rfl rfl (h3.ocell (i := 0) rfl rfl)) rfl ?_
  refine WL.gon rfl rfl rfl ?_
  refine WL.v (Runs.boolT (c := true) (Runs.eqlb Try.underlying4 rfl rfl) (by simp)) rfl ?_
  refine WL.v (Runs.pick rfl rfl rfl) rfl ?_
  refine WL.v (Runs.assign rfl) rfl ?_
  refine WL.nil (WN.thn (WC.ret ?_))
  exact ret1 rfl rfl ⟨rfl, ((h3.drop 0).drop 0)⟩
set_option maxRecDepth 100000 in
set_option maxHeartbeats 8000000 in
theorem qdecide_c {W : World} {F : Snap} {cs : List Res} (w : World) {AJ AS : Option Addr} {cj cS : Nat} {z : Z} {Ap : Option Addr} {cp : Nat} {f : Fc} {m : M} (id : Int) (hf : RdS (Kd.one Vi) F Ap f.ps) (hfn : f.ps.length ≤ 100000) (hz : few z) (hR : ZR F AJ AS z) (h : St W F cs w) : Calls Try.prog 14 #[Vi id, .agg #[.slice AJ z.js.length cj, .slice AS z.ss.length cS, .bool z.dr], .agg #[Vi m.kd, Vi m.fr, Vi m.to, Vi m.jb, Vi m.ep, Vi m.st, Vi m.ar, .string m.tx], .agg #[Vi f.cr, .slice Ap f.ps.length cp, Vi f.cd, .bool f.bz]] w fun e w' => ∃ G A cap, Le F G ∧ e = .returned (.tuple #[.agg (acv A cap (decideM id z m f).1), Vi (decideM id z m f).2]) ∧ RdS (Kd.one Vi) G A (decideM id z m f).1.rc.ls ∧ St W G cs w'  := by
  refine enter (P := Try.prog) (args := [Vi id, .agg #[.slice AJ z.js.length cj, .slice AS z.ss.length cS, .bool z.dr], .agg #[Vi m.kd, Vi m.fr, Vi m.to, Vi m.jb, Vi m.ep, Vi m.st, Vi m.ar, .string m.tx], .agg #[Vi f.cr, .slice Ap f.ps.length cp, Vi f.cd, .bool f.bz]]) Try.func14 rfl rfl rfl ?_
  have hleF := Le.refl F
  refine WC.seq (WC.reg ?_)
  refine WL.box rfl h rfl ?_
  intro b5 w1 h1
  refine WL.box rfl h1 rfl ?_
  intro b6 w2 h2
  refine WL.box rfl h2 rfl ?_
  intro b7 w3 h3
  refine WL.alloc' rfl h3 inf49 ?_
  intro b8 w4 h4
  refine WL.v (Runs.assign rfl) rfl ?_
  refine WL.nil (WN.thn (WC.seq (WC.seq ?_)))
  rcases six (¬ id < 0) (¬ 15 < id) (¬ f.cd < 0) (¬ 255 < f.cd) (m.fr = -1) (m.to = id) with q0 | ⟨q0, q1⟩ | ⟨q0, q1, q2⟩ | ⟨q0, q1, q2, q3⟩ | ⟨q0, q1, q2, q3, q4⟩ | ⟨q0, q1, q2, q3, q4, q5⟩ | ⟨q0, q1, q2, q3, q4, q5⟩
  · skip
    refine WC.reg ?_
    refine WL.v (Runs.move rfl) rfl ?_
    refine WL.v (Runs.boolT (c := true) (Runs.lss rfl rfl) (by rw [decide_eq_true_eq]; omega)) rfl ?_
    refine WL.v (Runs.move rfl) rfl ?_
    refine WL.goff rfl rfl rfl rfl ?_
    refine WL.goff rfl rfl rfl rfl ?_
    refine WL.v (Runs.pick rfl rfl rfl) rfl ?_
    refine WL.v (Runs.move rfl) rfl ?_
    refine WL.goff rfl rfl rfl rfl ?_
    refine WL.goff rfl rfl rfl rfl ?_
    refine WL.goff rfl rfl rfl rfl ?_
    refine WL.v (Runs.pick rfl rfl rfl) rfl ?_
    refine WL.v (Runs.move rfl) rfl ?_
    refine WL.goff rfl rfl rfl rfl ?_
    refine WL.goff rfl rfl rfl rfl ?_
    refine WL.goff rfl rfl rfl rfl ?_
    refine WL.v (Runs.pick rfl rfl rfl) rfl ?_
    refine WL.v (Runs.move rfl) rfl ?_
    refine WL.goff rfl rfl rfl rfl ?_
    refine WL.goff rfl rfl rfl rfl ?_
    refine WL.goff rfl rfl rfl rfl ?_
    refine WL.v (Runs.pick rfl rfl rfl) rfl ?_
    refine WL.v (Runs.move rfl) rfl ?_
    refine WL.goff rfl rfl rfl rfl ?_
    refine WL.goff rfl rfl rfl rfl ?_
    refine WL.goff rfl rfl rfl rfl ?_
    refine WL.goff rfl rfl rfl rfl ?_
    refine WL.v (Runs.pick rfl rfl rfl) rfl ?_
    refine WL.nil (WN.thn ?_)
    refine WC.condT rfl (rfl) ?_
    refine WC.seq (WC.reg ?_)
    refine WL.v (Runs.build (vs := []) (cells := #[.bool false, Vi 0, Vi 0, Vi 0, Vi 0, Vi 0, .slice none 0 0, .bool false, Vi 0, Vi 0, Vi 0, Vi 0, Vi 0, Vi 0, Vi 0, .string ⟨#[]⟩, .bool false, .bool false, .bool false]) rfl (by kernel_rfl)) rfl ?_
    refine WL.storeAll h4 0 rfl rfl rfl inf49 rfl rfl rfl (Free.zero _) ?_
    intro  w5 h5
    try simp only [lz, ls, ez, es'] at h5
    refine WL.v (Runs.assign rfl) rfl ?_
    refine WL.nil (WN.thn (WC.ret ?_))
    have hv : decideM id z m f = (A0, 1) := by unfold decideM; rw [if_pos (.inl (by omega))]
    refine retB rfl (ResOk.blk h5 0 rfl Try.underlying49 rfl inf49 rfl rfl) (show lk _ _ = _ from rfl) ⟨F, none, 0, Le.refl F, by rw [hv] <;> rfl, by rw [hv]; exact .inl rfl, ((((h5.drop 0).drop 0).drop 0).drop 0)⟩
  · skip
    refine WC.reg ?_
    refine WL.v (Runs.move rfl) rfl ?_
    refine WL.v (Runs.boolT (c := false) (Runs.lss rfl rfl) (by rw [decide_eq_false_iff_not]; omega)) rfl ?_
    refine WL.v (Runs.move rfl) rfl ?_
    refine WL.gon rfl rfl rfl ?_
    refine WL.v (Runs.move rfl) rfl ?_
    refine WL.gon rfl rfl rfl ?_
    refine WL.v (Runs.boolT (c := true) (Runs.gtr rfl rfl) (by rw [decide_eq_true_eq]; omega)) rfl ?_
    refine WL.v (Runs.pick rfl rfl rfl) rfl ?_
    refine WL.v (Runs.move rfl) rfl ?_
    refine WL.goff rfl rfl rfl rfl ?_
    refine WL.goff rfl rfl rfl rfl ?_
    refine WL.goff rfl rfl rfl rfl ?_
    refine WL.v (Runs.pick rfl rfl rfl) rfl ?_
    refine WL.v (Runs.move rfl) rfl ?_
    refine WL.goff rfl rfl rfl rfl ?_
    refine WL.goff rfl rfl rfl rfl ?_
    refine WL.goff rfl rfl rfl rfl ?_
    refine WL.v (Runs.pick rfl rfl rfl) rfl ?_
    refine WL.v (Runs.move rfl) rfl ?_
    refine WL.goff rfl rfl rfl rfl ?_
    refine WL.goff rfl rfl rfl rfl ?_
    refine WL.goff rfl rfl rfl rfl ?_
    refine WL.v (Runs.pick rfl rfl rfl) rfl ?_
    refine WL.v (Runs.move rfl) rfl ?_
    refine WL.goff rfl rfl rfl rfl ?_
    refine WL.goff rfl rfl rfl rfl ?_
    refine WL.goff rfl rfl rfl rfl ?_
    refine WL.goff rfl rfl rfl rfl ?_
    refine WL.v (Runs.pick rfl rfl rfl) rfl ?_
    refine WL.nil (WN.thn ?_)
    refine WC.condT rfl (rfl) ?_
    refine WC.seq (WC.reg ?_)
    refine WL.v (Runs.build (vs := []) (cells := #[.bool false, Vi 0, Vi 0, Vi 0, Vi 0, Vi 0, .slice none 0 0, .bool false, Vi 0, Vi 0, Vi 0, Vi 0, Vi 0, Vi 0, Vi 0, .string ⟨#[]⟩, .bool false, .bool false, .bool false]) rfl (by kernel_rfl)) rfl ?_
    refine WL.storeAll h4 0 rfl rfl rfl inf49 rfl rfl rfl (Free.zero _) ?_
    intro  w6 h6
    try simp only [lz, ls, ez, es'] at h6
    refine WL.v (Runs.assign rfl) rfl ?_
    refine WL.nil (WN.thn (WC.ret ?_))
    have hv : decideM id z m f = (A0, 1) := by unfold decideM; rw [if_pos (.inl (by omega))]
    refine retB rfl (ResOk.blk h6 0 rfl Try.underlying49 rfl inf49 rfl rfl) (show lk _ _ = _ from rfl) ⟨F, none, 0, Le.refl F, by rw [hv] <;> rfl, by rw [hv]; exact .inl rfl, ((((h6.drop 0).drop 0).drop 0).drop 0)⟩
  · skip
    refine WC.reg ?_
    refine WL.v (Runs.move rfl) rfl ?_
    refine WL.v (Runs.boolT (c := false) (Runs.lss rfl rfl) (by rw [decide_eq_false_iff_not]; omega)) rfl ?_
    refine WL.v (Runs.move rfl) rfl ?_
    refine WL.gon rfl rfl rfl ?_
    refine WL.v (Runs.move rfl) rfl ?_
    refine WL.gon rfl rfl rfl ?_
    refine WL.v (Runs.boolT (c := false) (Runs.gtr rfl rfl) (by rw [decide_eq_false_iff_not]; omega)) rfl ?_
    refine WL.v (Runs.pick rfl rfl rfl) rfl ?_
    refine WL.v (Runs.move rfl) rfl ?_
    refine WL.gon rfl rfl rfl ?_
    refine WL.v (Runs.fld fld31_2 rfl) rfl ?_
    refine WL.gon rfl rfl rfl ?_
    refine WL.v (Runs.load1 Try.underlying3 rfl rfl (h4.ocell (i := 1) rfl rfl)) rfl ?_
    refine WL.gon rfl rfl rfl ?_
    refine WL.v (Runs.boolT (c := true) (Runs.lss rfl rfl) (by rw [decide_eq_true_eq]; omega)) rfl ?_
    refine WL.v (Runs.pick rfl rfl rfl) rfl ?_
    refine WL.v (Runs.move rfl) rfl ?_
    refine WL.goff rfl rfl rfl rfl ?_
    refine WL.goff rfl rfl rfl rfl ?_
    refine WL.goff rfl rfl rfl rfl ?_
    refine WL.v (Runs.pick rfl rfl rfl) rfl ?_
    refine WL.v (Runs.move rfl) rfl ?_
    refine WL.goff rfl rfl rfl rfl ?_
    refine WL.goff rfl rfl rfl rfl ?_
    refine WL.goff rfl rfl rfl rfl ?_
    refine WL.v (Runs.pick rfl rfl rfl) rfl ?_
    refine WL.v (Runs.move rfl) rfl ?_
    refine WL.goff rfl rfl rfl rfl ?_
    refine WL.goff rfl rfl rfl rfl ?_
    refine WL.goff rfl rfl rfl rfl ?_
    refine WL.goff rfl rfl rfl rfl ?_
    refine WL.v (Runs.pick rfl rfl rfl) rfl ?_
    refine WL.nil (WN.thn ?_)
    refine WC.condT rfl (rfl) ?_
    refine WC.seq (WC.reg ?_)
    refine WL.v (Runs.build (vs := []) (cells := #[.bool false, Vi 0, Vi 0, Vi 0, Vi 0, Vi 0, .slice none 0 0, .bool false, Vi 0, Vi 0, Vi 0, Vi 0, Vi 0, Vi 0, Vi 0, .string ⟨#[]⟩, .bool false, .bool false, .bool false]) rfl (by kernel_rfl)) rfl ?_
    refine WL.storeAll h4 0 rfl rfl rfl inf49 rfl rfl rfl (Free.zero _) ?_
    intro  w7 h7
    try simp only [lz, ls, ez, es'] at h7
    refine WL.v (Runs.assign rfl) rfl ?_
    refine WL.nil (WN.thn (WC.ret ?_))
    have hv : decideM id z m f = (A0, 1) := by unfold decideM; rw [if_pos (.inr (.inl (by omega)))]
    refine retB rfl (ResOk.blk h7 0 rfl Try.underlying49 rfl inf49 rfl rfl) (show lk _ _ = _ from rfl) ⟨F, none, 0, Le.refl F, by rw [hv] <;> rfl, by rw [hv]; exact .inl rfl, ((((h7.drop 0).drop 0).drop 0).drop 0)⟩
  · skip
    refine WC.reg ?_
    refine WL.v (Runs.move rfl) rfl ?_
    refine WL.v (Runs.boolT (c := false) (Runs.lss rfl rfl) (by rw [decide_eq_false_iff_not]; omega)) rfl ?_
    refine WL.v (Runs.move rfl) rfl ?_
    refine WL.gon rfl rfl rfl ?_
    refine WL.v (Runs.move rfl) rfl ?_
    refine WL.gon rfl rfl rfl ?_
    refine WL.v (Runs.boolT (c := false) (Runs.gtr rfl rfl) (by rw [decide_eq_false_iff_not]; omega)) rfl ?_
    refine WL.v (Runs.pick rfl rfl rfl) rfl ?_
    refine WL.v (Runs.move rfl) rfl ?_
    refine WL.gon rfl rfl rfl ?_
    refine WL.v (Runs.fld fld31_2 rfl) rfl ?_
    refine WL.gon rfl rfl rfl ?_
    refine WL.v (Runs.load1 Try.underlying3 rfl rfl (h4.ocell (i := 1) rfl rfl)) rfl ?_
    refine WL.gon rfl rfl rfl ?_
    refine WL.v (Runs.boolT (c := false) (Runs.lss rfl rfl) (by rw [decide_eq_false_iff_not]; omega)) rfl ?_
    refine WL.v (Runs.pick rfl rfl rfl) rfl ?_
    refine WL.v (Runs.move rfl) rfl ?_
    refine WL.gon rfl rfl rfl ?_
    refine WL.v (Runs.fld fld31_2 rfl) rfl ?_
    refine WL.gon rfl rfl rfl ?_
    refine WL.v (Runs.load1 Try.underlying3 rfl rfl (h4.ocell (i := 1) rfl rfl)) rfl ?_
    refine WL.gon rfl rfl rfl ?_
    refine WL.v (Runs.boolT (c := true) (Runs.gtr rfl rfl) (by rw [decide_eq_true_eq]; omega)) rfl ?_
    refine WL.v (Runs.pick rfl rfl rfl) rfl ?_
    refine WL.v (Runs.move rfl) rfl ?_
    refine WL.goff rfl rfl rfl rfl ?_
    refine WL.goff rfl rfl rfl rfl ?_
    refine WL.goff rfl rfl rfl rfl ?_
    refine WL.v (Runs.pick rfl rfl rfl) rfl ?_
    refine WL.v (Runs.move rfl) rfl ?_
    refine WL.goff rfl rfl rfl rfl ?_
    refine WL.goff rfl rfl rfl rfl ?_
    refine WL.goff rfl rfl rfl rfl ?_
    refine WL.goff rfl rfl rfl rfl ?_
    refine WL.v (Runs.pick rfl rfl rfl) rfl ?_
    refine WL.nil (WN.thn ?_)
    refine WC.condT rfl (rfl) ?_
    refine WC.seq (WC.reg ?_)
    refine WL.v (Runs.build (vs := []) (cells := #[.bool false, Vi 0, Vi 0, Vi 0, Vi 0, Vi 0, .slice none 0 0, .bool false, Vi 0, Vi 0, Vi 0, Vi 0, Vi 0, Vi 0, Vi 0, .string ⟨#[]⟩, .bool false, .bool false, .bool false]) rfl (by kernel_rfl)) rfl ?_
    refine WL.storeAll h4 0 rfl rfl rfl inf49 rfl rfl rfl (Free.zero _) ?_
    intro  w8 h8
    try simp only [lz, ls, ez, es'] at h8
    refine WL.v (Runs.assign rfl) rfl ?_
    refine WL.nil (WN.thn (WC.ret ?_))
    have hv : decideM id z m f = (A0, 1) := by unfold decideM; rw [if_pos (.inr (.inl (by omega)))]
    refine retB rfl (ResOk.blk h8 0 rfl Try.underlying49 rfl inf49 rfl rfl) (show lk _ _ = _ from rfl) ⟨F, none, 0, Le.refl F, by rw [hv] <;> rfl, by rw [hv]; exact .inl rfl, ((((h8.drop 0).drop 0).drop 0).drop 0)⟩
  · skip
    refine WC.reg ?_
    refine WL.v (Runs.move rfl) rfl ?_
    refine WL.v (Runs.boolT (c := false) (Runs.lss rfl rfl) (by rw [decide_eq_false_iff_not]; omega)) rfl ?_
    refine WL.v (Runs.move rfl) rfl ?_
    refine WL.gon rfl rfl rfl ?_
    refine WL.v (Runs.move rfl) rfl ?_
    refine WL.gon rfl rfl rfl ?_
    refine WL.v (Runs.boolT (c := false) (Runs.gtr rfl rfl) (by rw [decide_eq_false_iff_not]; omega)) rfl ?_
    refine WL.v (Runs.pick rfl rfl rfl) rfl ?_
    refine WL.v (Runs.move rfl) rfl ?_
    refine WL.gon rfl rfl rfl ?_
    refine WL.v (Runs.fld fld31_2 rfl) rfl ?_
    refine WL.gon rfl rfl rfl ?_
    refine WL.v (Runs.load1 Try.underlying3 rfl rfl (h4.ocell (i := 1) rfl rfl)) rfl ?_
    refine WL.gon rfl rfl rfl ?_
    refine WL.v (Runs.boolT (c := false) (Runs.lss rfl rfl) (by rw [decide_eq_false_iff_not]; omega)) rfl ?_
    refine WL.v (Runs.pick rfl rfl rfl) rfl ?_
    refine WL.v (Runs.move rfl) rfl ?_
    refine WL.gon rfl rfl rfl ?_
    refine WL.v (Runs.fld fld31_2 rfl) rfl ?_
    refine WL.gon rfl rfl rfl ?_
    refine WL.v (Runs.load1 Try.underlying3 rfl rfl (h4.ocell (i := 1) rfl rfl)) rfl ?_
    refine WL.gon rfl rfl rfl ?_
    refine WL.v (Runs.boolT (c := false) (Runs.gtr rfl rfl) (by rw [decide_eq_false_iff_not]; omega)) rfl ?_
    refine WL.v (Runs.pick rfl rfl rfl) rfl ?_
    refine WL.v (Runs.move rfl) rfl ?_
    refine WL.gon rfl rfl rfl ?_
    refine WL.v (Runs.fld fld27_1 rfl) rfl ?_
    refine WL.gon rfl rfl rfl ?_
    refine WL.v (Runs.load1 Try.underlying3 rfl rfl (h4.ocell (i := 2) rfl rfl)) rfl ?_
    refine WL.gon rfl rfl rfl ?_
    refine WL.v (Runs.boolT (c := true) (Runs.neq rfl rfl) (by rw [decide_eq_false q4]; rfl)) rfl ?_
    refine WL.v (Runs.pick rfl rfl rfl) rfl ?_
    refine WL.v (Runs.move rfl) rfl ?_
    refine WL.goff rfl rfl rfl rfl ?_
    refine WL.goff rfl rfl rfl rfl ?_
    refine WL.goff rfl rfl rfl rfl ?_
    refine WL.goff rfl rfl rfl rfl ?_
    refine WL.v (Runs.pick rfl rfl rfl) rfl ?_
    refine WL.nil (WN.thn ?_)
    refine WC.condT rfl (rfl) ?_
    refine WC.seq (WC.reg ?_)
    refine WL.v (Runs.build (vs := []) (cells := #[.bool false, Vi 0, Vi 0, Vi 0, Vi 0, Vi 0, .slice none 0 0, .bool false, Vi 0, Vi 0, Vi 0, Vi 0, Vi 0, Vi 0, Vi 0, .string ⟨#[]⟩, .bool false, .bool false, .bool false]) rfl (by kernel_rfl)) rfl ?_
    refine WL.storeAll h4 0 rfl rfl rfl inf49 rfl rfl rfl (Free.zero _) ?_
    intro  w9 h9
    try simp only [lz, ls, ez, es'] at h9
    refine WL.v (Runs.assign rfl) rfl ?_
    refine WL.nil (WN.thn (WC.ret ?_))
    have hv : decideM id z m f = (A0, 1) := by unfold decideM; rw [if_pos (.inr (.inr (.inl q4)))]
    refine retB rfl (ResOk.blk h9 0 rfl Try.underlying49 rfl inf49 rfl rfl) (show lk _ _ = _ from rfl) ⟨F, none, 0, Le.refl F, by rw [hv] <;> rfl, by rw [hv]; exact .inl rfl, ((((h9.drop 0).drop 0).drop 0).drop 0)⟩
  · skip
    refine WC.reg ?_
    refine WL.v (Runs.move rfl) rfl ?_
    refine WL.v (Runs.boolT (c := false) (Runs.lss rfl rfl) (by rw [decide_eq_false_iff_not]; omega)) rfl ?_
    refine WL.v (Runs.move rfl) rfl ?_
    refine WL.gon rfl rfl rfl ?_
    refine WL.v (Runs.move rfl) rfl ?_
    refine WL.gon rfl rfl rfl ?_
    refine WL.v (Runs.boolT (c := false) (Runs.gtr rfl rfl) (by rw [decide_eq_false_iff_not]; omega)) rfl ?_
    refine WL.v (Runs.pick rfl rfl rfl) rfl ?_
    refine WL.v (Runs.move rfl) rfl ?_
    refine WL.gon rfl rfl rfl ?_
    refine WL.v (Runs.fld fld31_2 rfl) rfl ?_
    refine WL.gon rfl rfl rfl ?_
    refine WL.v (Runs.load1 Try.underlying3 rfl rfl (h4.ocell (i := 1) rfl rfl)) rfl ?_
    refine WL.gon rfl rfl rfl ?_
    refine WL.v (Runs.boolT (c := false) (Runs.lss rfl rfl) (by rw [decide_eq_false_iff_not]; omega)) rfl ?_
    refine WL.v (Runs.pick rfl rfl rfl) rfl ?_
    refine WL.v (Runs.move rfl) rfl ?_
    refine WL.gon rfl rfl rfl ?_
    refine WL.v (Runs.fld fld31_2 rfl) rfl ?_
    refine WL.gon rfl rfl rfl ?_
    refine WL.v (Runs.load1 Try.underlying3 rfl rfl (h4.ocell (i := 1) rfl rfl)) rfl ?_
    refine WL.gon rfl rfl rfl ?_
    refine WL.v (Runs.boolT (c := false) (Runs.gtr rfl rfl) (by rw [decide_eq_false_iff_not]; omega)) rfl ?_
    refine WL.v (Runs.pick rfl rfl rfl) rfl ?_
    refine WL.v (Runs.move rfl) rfl ?_
    refine WL.gon rfl rfl rfl ?_
    refine WL.v (Runs.fld fld27_1 rfl) rfl ?_
    refine WL.gon rfl rfl rfl ?_
    refine WL.v (Runs.load1 Try.underlying3 rfl rfl (h4.ocell (i := 2) rfl rfl)) rfl ?_
    refine WL.gon rfl rfl rfl ?_
    refine WL.v (Runs.boolT (c := false) (Runs.neq rfl rfl) (by rw [decide_eq_true q4]; rfl)) rfl ?_
    refine WL.v (Runs.pick rfl rfl rfl) rfl ?_
    refine WL.v (Runs.move rfl) rfl ?_
    refine WL.gon rfl rfl rfl ?_
    refine WL.v (Runs.fld fld27_2 rfl) rfl ?_
    refine WL.gon rfl rfl rfl ?_
    refine WL.v (Runs.load1 Try.underlying3 rfl rfl (h4.ocell (i := 2) rfl rfl)) rfl ?_
    refine WL.gon rfl rfl rfl ?_
    refine WL.v (Runs.move rfl) rfl ?_
    refine WL.gon rfl rfl rfl ?_
    refine WL.v (Runs.boolT (c := true) (Runs.neq rfl rfl) (by rw [decide_eq_false q5]; rfl)) rfl ?_
    refine WL.v (Runs.pick rfl rfl rfl) rfl ?_
    refine WL.nil (WN.thn ?_)
    refine WC.condT rfl (rfl) ?_
    refine WC.seq (WC.reg ?_)
    refine WL.v (Runs.build (vs := []) (cells := #[.bool false, Vi 0, Vi 0, Vi 0, Vi 0, Vi 0, .slice none 0 0, .bool false, Vi 0, Vi 0, Vi 0, Vi 0, Vi 0, Vi 0, Vi 0, .string ⟨#[]⟩, .bool false, .bool false, .bool false]) rfl (by kernel_rfl)) rfl ?_
    refine WL.storeAll h4 0 rfl rfl rfl inf49 rfl rfl rfl (Free.zero _) ?_
    intro  w10 h10
    try simp only [lz, ls, ez, es'] at h10
    refine WL.v (Runs.assign rfl) rfl ?_
    refine WL.nil (WN.thn (WC.ret ?_))
    have hv : decideM id z m f = (A0, 1) := by unfold decideM; rw [if_pos (.inr (.inr (.inr q5)))]
    refine retB rfl (ResOk.blk h10 0 rfl Try.underlying49 rfl inf49 rfl rfl) (show lk _ _ = _ from rfl) ⟨F, none, 0, Le.refl F, by rw [hv] <;> rfl, by rw [hv]; exact .inl rfl, ((((h10.drop 0).drop 0).drop 0).drop 0)⟩
  · skip
    refine WC.reg ?_
    refine WL.v (Runs.move rfl) rfl ?_
    refine WL.v (Runs.boolT (c := false) (Runs.lss rfl rfl) (by rw [decide_eq_false_iff_not]; omega)) rfl ?_
    refine WL.v (Runs.move rfl) rfl ?_
    refine WL.gon rfl rfl rfl ?_
    refine WL.v (Runs.move rfl) rfl ?_
    refine WL.gon rfl rfl rfl ?_
    refine WL.v (Runs.boolT (c := false) (Runs.gtr rfl rfl) (by rw [decide_eq_false_iff_not]; omega)) rfl ?_
    refine WL.v (Runs.pick rfl rfl rfl) rfl ?_
    refine WL.v (Runs.move rfl) rfl ?_
    refine WL.gon rfl rfl rfl ?_
    refine WL.v (Runs.fld fld31_2 rfl) rfl ?_
    refine WL.gon rfl rfl rfl ?_
    refine WL.v (Runs.load1 Try.underlying3 rfl rfl (h4.ocell (i := 1) rfl rfl)) rfl ?_
    refine WL.gon rfl rfl rfl ?_
    refine WL.v (Runs.boolT (c := false) (Runs.lss rfl rfl) (by rw [decide_eq_false_iff_not]; omega)) rfl ?_
    refine WL.v (Runs.pick rfl rfl rfl) rfl ?_
    refine WL.v (Runs.move rfl) rfl ?_
    refine WL.gon rfl rfl rfl ?_
    refine WL.v (Runs.fld fld31_2 rfl) rfl ?_
    refine WL.gon rfl rfl rfl ?_
    refine WL.v (Runs.load1 Try.underlying3 rfl rfl (h4.ocell (i := 1) rfl rfl)) rfl ?_
    refine WL.gon rfl rfl rfl ?_
    refine WL.v (Runs.boolT (c := false) (Runs.gtr rfl rfl) (by rw [decide_eq_false_iff_not]; omega)) rfl ?_
    refine WL.v (Runs.pick rfl rfl rfl) rfl ?_
    refine WL.v (Runs.move rfl) rfl ?_
    refine WL.gon rfl rfl rfl ?_
    refine WL.v (Runs.fld fld27_1 rfl) rfl ?_
    refine WL.gon rfl rfl rfl ?_
    refine WL.v (Runs.load1 Try.underlying3 rfl rfl (h4.ocell (i := 2) rfl rfl)) rfl ?_
    refine WL.gon rfl rfl rfl ?_
    refine WL.v (Runs.boolT (c := false) (Runs.neq rfl rfl) (by rw [decide_eq_true q4]; rfl)) rfl ?_
    refine WL.v (Runs.pick rfl rfl rfl) rfl ?_
    refine WL.v (Runs.move rfl) rfl ?_
    refine WL.gon rfl rfl rfl ?_
    refine WL.v (Runs.fld fld27_2 rfl) rfl ?_
    refine WL.gon rfl rfl rfl ?_
    refine WL.v (Runs.load1 Try.underlying3 rfl rfl (h4.ocell (i := 2) rfl rfl)) rfl ?_
    refine WL.gon rfl rfl rfl ?_
    refine WL.v (Runs.move rfl) rfl ?_
    refine WL.gon rfl rfl rfl ?_
    refine WL.v (Runs.boolT (c := false) (Runs.neq rfl rfl) (by rw [decide_eq_true q5]; rfl)) rfl ?_
    refine WL.v (Runs.pick rfl rfl rfl) rfl ?_
    refine WL.nil (WN.thn ?_)
    refine WC.condF rfl (rfl) ?_
    refine WC.skip (WN.thn (WC.seq (WC.seq (WC.reg ?_))))
    refine WL.v (Runs.fld fld27_0 rfl) rfl ?_
    refine WL.v (Runs.load1 Try.underlying3 rfl rfl (h4.ocell (i := 2) rfl rfl)) rfl ?_
    refine WL.nil (WN.thn (WC.block (WC.seq (WC.reg ?_))))
    refine WL.v (Runs.eql rfl rfl) rfl ?_
    refine WL.v (Runs.assign rfl) rfl ?_
    refine WL.nil (WN.thn ?_)
    refine WC.cond rfl (fun c11 => ?_) (fun c11 => ?_)
    · try simp only [dt, df, nt, nf, ba, il, ie] at c11
      first
      | (exfalso; omega)
      | skip
        refine WC.seq (WC.reg ?_)
        refine WL.v (Runs.move rfl) rfl ?_
        refine WL.v (Runs.loadAll h4 3 rfl Try.underlying25 rfl inf25 rfl rfl) rfl ?_
        refine WL.v (Runs.loadAll h4 2 rfl Try.underlying27 rfl inf27 rfl rfl) rfl ?_
        refine WL.v (Runs.loadAll h4 1 rfl Try.underlying31 rfl inf31 rfl rfl) rfl ?_
        refine WL.call can34 rfl rfl (qprolog_c _ id hz hR h4) ?_
        rintro _ w12 ⟨G46, A46, c46, hG46, rfl, hrd46, h12⟩
        refine ⟨_, rfl, ?_⟩
        replace hleF := Le.trans hleF hG46
        refine WL.storeAll h12 0 rfl rfl rfl inf49 rfl rfl rfl (Free.zero _) ?_
        intro  w13 h13
        try simp only [lz, ls, ez, es'] at h13
        refine WL.v (Runs.assign rfl) rfl ?_
        refine WL.nil (WN.thn (WC.ret ?_))
        have hv : decideM id z m f = (prologA id z m f.cd, 0) := by unfold decideM; rw [if_neg (by rintro (hh | hh | hh | hh); exact hh ⟨by omega, by omega⟩; exact hh ⟨by omega, by omega⟩; exact hh q4; exact hh q5), if_pos c11]
        refine retB rfl (ResOk.blk h13 0 rfl Try.underlying49 rfl inf49 rfl rfl) (show lk _ _ = _ from rfl) ⟨_, A46, c46, hleF, by rw [hv] <;> rfl, by rw [hv]; exact hrd46, ((((h13.drop 0).drop 0).drop 0).drop 0)⟩
    · try simp only [dt, df, nt, nf, ba, il, ie] at c11
      first
      | (exfalso; omega)
      | skip
        refine WC.seq (WC.reg ?_)
        refine WL.v (Runs.eql rfl rfl) rfl ?_
        refine WL.v (Runs.assign rfl) rfl ?_
        refine WL.nil (WN.thn ?_)
        refine WC.cond rfl (fun c14 => ?_) (fun c14 => ?_)
        · try simp only [dt, df, nt, nf, ba, il, ie] at c14
          first
          | (exfalso; omega)
          | skip
            refine WC.seq (WC.reg ?_)
            refine WL.v (Runs.move rfl) rfl ?_
            refine WL.v (Runs.loadAll h4 3 rfl Try.underlying25 rfl inf25 rfl rfl) rfl ?_
            refine WL.v (Runs.loadAll h4 2 rfl Try.underlying27 rfl inf27 rfl rfl) rfl ?_
            refine WL.v (Runs.loadAll h4 1 rfl Try.underlying31 rfl inf31 rfl rfl) rfl ?_
            refine WL.call can35 rfl rfl (qlaunch_c _ id hf hfn hz hR h4) ?_
            rintro _ w15 ⟨G53, A53, c53, hG53, rfl, hrd53, h15⟩
            refine ⟨_, rfl, ?_⟩
            replace hleF := Le.trans hleF hG53
            refine WL.storeAll h15 0 rfl rfl rfl inf49 rfl rfl rfl (Free.zero _) ?_
            intro  w16 h16
            try simp only [lz, ls, ez, es'] at h16
            refine WL.v (Runs.assign rfl) rfl ?_
            refine WL.nil (WN.thn (WC.ret ?_))
            have hv : decideM id z m f = (launchA id z m f, 0) := by unfold decideM; rw [if_neg (by rintro (hh | hh | hh | hh); exact hh ⟨by omega, by omega⟩; exact hh ⟨by omega, by omega⟩; exact hh q4; exact hh q5), if_neg c11, if_pos c14]
            refine retB rfl (ResOk.blk h16 0 rfl Try.underlying49 rfl inf49 rfl rfl) (show lk _ _ = _ from rfl) ⟨_, A53, c53, hleF, by rw [hv] <;> rfl, by rw [hv]; exact hrd53, ((((h16.drop 0).drop 0).drop 0).drop 0)⟩
        · try simp only [dt, df, nt, nf, ba, il, ie] at c14
          first
          | (exfalso; omega)
          | skip
            refine WC.seq (WC.seq (WC.reg ?_))
            refine WL.v (Runs.eql rfl rfl) rfl ?_
            refine WL.v (Runs.assign rfl) rfl ?_
            refine WL.nil (WN.thn ?_)
            refine WC.cond rfl (fun c17 => ?_) (fun c17 => ?_)
            · try simp only [dt, df, nt, nf, ba, il, ie] at c17
              first
              | (exfalso; omega)
              | skip
                refine WC.skip (WN.thn ?_)
                refine WC.condT rfl (decide_eq_true c17) ?_
                refine WC.seq (WC.reg ?_)
                refine WL.v (Runs.move rfl) rfl ?_
                refine WL.v (Runs.loadAll h4 3 rfl Try.underlying25 rfl inf25 rfl rfl) rfl ?_
                refine WL.v (Runs.loadAll h4 2 rfl Try.underlying27 rfl inf27 rfl rfl) rfl ?_
                refine WL.call can36 rfl rfl (qturn_c _ id hz hR h4 (by omega)) ?_
                rintro _ w18 ⟨G61, A61, c61, hG61, rfl, hrd61, h18⟩
                refine ⟨_, rfl, ?_⟩
                replace hleF := Le.trans hleF hG61
                refine WL.storeAll h18 0 rfl rfl rfl inf49 rfl rfl rfl (Free.zero _) ?_
                intro  w19 h19
                try simp only [lz, ls, ez, es'] at h19
                refine WL.v (Runs.assign rfl) rfl ?_
                refine WL.nil (WN.thn (WC.ret ?_))
                have hv : decideM id z m f = (turnA id z m, 0) := dec_turn (by rintro (hh | hh | hh | hh); exact hh ⟨by omega, by omega⟩; exact hh ⟨by omega, by omega⟩; exact hh q4; exact hh q5) (by omega)
                refine retB rfl (ResOk.blk h19 0 rfl Try.underlying49 rfl inf49 rfl rfl) (show lk _ _ = _ from rfl) ⟨_, A61, c61, hleF, by rw [hv] <;> rfl, by rw [hv]; exact hrd61, ((((h19.drop 0).drop 0).drop 0).drop 0)⟩
            · try simp only [dt, df, nt, nf, ba, il, ie] at c17
              first
              | (exfalso; omega)
              | skip
                refine WC.seq (WC.reg ?_)
                refine WL.v (Runs.eql rfl rfl) rfl ?_
                refine WL.v (Runs.assign rfl) rfl ?_
                refine WL.nil (WN.thn ?_)
                refine WC.cond rfl (fun c20 => ?_) (fun c20 => ?_)
                · try simp only [dt, df, nt, nf, ba, il, ie] at c20
                  first
                  | (exfalso; omega)
                  | skip
                    refine WC.skip (WN.thn ?_)
                    refine WC.condT rfl (decide_eq_true c20) ?_
                    refine WC.seq (WC.reg ?_)
                    refine WL.v (Runs.move rfl) rfl ?_
                    refine WL.v (Runs.loadAll h4 3 rfl Try.underlying25 rfl inf25 rfl rfl) rfl ?_
                    refine WL.v (Runs.loadAll h4 2 rfl Try.underlying27 rfl inf27 rfl rfl) rfl ?_
                    refine WL.call can36 rfl rfl (qturn_c _ id hz hR h4 (by omega)) ?_
                    rintro _ w21 ⟨G61, A61, c61, hG61, rfl, hrd61, h21⟩
                    refine ⟨_, rfl, ?_⟩
                    replace hleF := Le.trans hleF hG61
                    refine WL.storeAll h21 0 rfl rfl rfl inf49 rfl rfl rfl (Free.zero _) ?_
                    intro  w22 h22
                    try simp only [lz, ls, ez, es'] at h22
                    refine WL.v (Runs.assign rfl) rfl ?_
                    refine WL.nil (WN.thn (WC.ret ?_))
                    have hv : decideM id z m f = (turnA id z m, 0) := dec_turn (by rintro (hh | hh | hh | hh); exact hh ⟨by omega, by omega⟩; exact hh ⟨by omega, by omega⟩; exact hh q4; exact hh q5) (by omega)
                    refine retB rfl (ResOk.blk h22 0 rfl Try.underlying49 rfl inf49 rfl rfl) (show lk _ _ = _ from rfl) ⟨_, A61, c61, hleF, by rw [hv] <;> rfl, by rw [hv]; exact hrd61, ((((h22.drop 0).drop 0).drop 0).drop 0)⟩
                · try simp only [dt, df, nt, nf, ba, il, ie] at c20
                  first
                  | (exfalso; omega)
                  | skip
                    refine WC.reg ?_
                    refine WL.v (Runs.eql rfl rfl) rfl ?_
                    refine WL.v (Runs.assign rfl) rfl ?_
                    refine WL.nil (WN.thn ?_)
                    refine WC.cond rfl (fun c23 => ?_) (fun c23 => ?_)
                    · try simp only [dt, df, nt, nf, ba, il, ie] at c23
                      first
                      | (exfalso; omega)
                      | skip
                        refine WC.seq (WC.reg ?_)
                        refine WL.v (Runs.move rfl) rfl ?_
                        refine WL.v (Runs.loadAll h4 3 rfl Try.underlying25 rfl inf25 rfl rfl) rfl ?_
                        refine WL.v (Runs.loadAll h4 2 rfl Try.underlying27 rfl inf27 rfl rfl) rfl ?_
                        refine WL.call can36 rfl rfl (qturn_c _ id hz hR h4 (by omega)) ?_
                        rintro _ w24 ⟨G61, A61, c61, hG61, rfl, hrd61, h24⟩
                        refine ⟨_, rfl, ?_⟩
                        replace hleF := Le.trans hleF hG61
                        refine WL.storeAll h24 0 rfl rfl rfl inf49 rfl rfl rfl (Free.zero _) ?_
                        intro  w25 h25
                        try simp only [lz, ls, ez, es'] at h25
                        refine WL.v (Runs.assign rfl) rfl ?_
                        refine WL.nil (WN.thn (WC.ret ?_))
                        have hv : decideM id z m f = (turnA id z m, 0) := dec_turn (by rintro (hh | hh | hh | hh); exact hh ⟨by omega, by omega⟩; exact hh ⟨by omega, by omega⟩; exact hh q4; exact hh q5) (by omega)
                        refine retB rfl (ResOk.blk h25 0 rfl Try.underlying49 rfl inf49 rfl rfl) (show lk _ _ = _ from rfl) ⟨_, A61, c61, hleF, by rw [hv] <;> rfl, by rw [hv]; exact hrd61, ((((h25.drop 0).drop 0).drop 0).drop 0)⟩
                    · try simp only [dt, df, nt, nf, ba, il, ie] at c23
                      first
                      | (exfalso; omega)
                      | skip
                        refine WC.seq (WC.reg ?_)
                        refine WL.v (Runs.eql rfl rfl) rfl ?_
                        refine WL.v (Runs.assign rfl) rfl ?_
                        refine WL.nil (WN.thn ?_)
                        refine WC.cond rfl (fun c26 => ?_) (fun c26 => ?_)
                        · try simp only [dt, df, nt, nf, ba, il, ie] at c26
                          first
                          | (exfalso; omega)
                          | skip
                            refine WC.seq (WC.reg ?_)
                            refine WL.v (Runs.move rfl) rfl ?_
                            refine WL.v (Runs.loadAll h4 3 rfl Try.underlying25 rfl inf25 rfl rfl) rfl ?_
                            refine WL.v (Runs.loadAll h4 2 rfl Try.underlying27 rfl inf27 rfl rfl) rfl ?_
                            refine WL.v (Runs.loadAll h4 1 rfl Try.underlying31 rfl inf31 rfl rfl) rfl ?_
                            refine WL.call can37 rfl rfl (qfinish_c _ id hz hR h4) ?_
                            rintro _ w27 ⟨G68, A68, c68, hG68, rfl, hrd68, h27⟩
                            refine ⟨_, rfl, ?_⟩
                            replace hleF := Le.trans hleF hG68
                            refine WL.storeAll h27 0 rfl rfl rfl inf49 rfl rfl rfl (Free.zero _) ?_
                            intro  w28 h28
                            try simp only [lz, ls, ez, es'] at h28
                            refine WL.v (Runs.assign rfl) rfl ?_
                            refine WL.nil (WN.thn (WC.ret ?_))
                            have hv : decideM id z m f = (finishA id z m f, 0) := by unfold decideM; rw [if_neg (by rintro (hh | hh | hh | hh); exact hh ⟨by omega, by omega⟩; exact hh ⟨by omega, by omega⟩; exact hh q4; exact hh q5), if_neg c11, if_neg c14, if_neg (by omega), if_neg (by omega), if_neg (by omega), if_pos c26]
                            refine retB rfl (ResOk.blk h28 0 rfl Try.underlying49 rfl inf49 rfl rfl) (show lk _ _ = _ from rfl) ⟨_, A68, c68, hleF, by rw [hv] <;> rfl, by rw [hv]; exact hrd68, ((((h28.drop 0).drop 0).drop 0).drop 0)⟩
                        · try simp only [dt, df, nt, nf, ba, il, ie] at c26
                          first
                          | (exfalso; omega)
                          | skip
                            refine WC.skip (WN.blk (WN.thn (WC.seq (WC.reg ?_))))
                            refine WL.v (Runs.build (vs := []) (cells := #[.bool false, Vi 0, Vi 0, Vi 0, Vi 0, Vi 0, .slice none 0 0, .bool false, Vi 0, Vi 0, Vi 0, Vi 0, Vi 0, Vi 0, Vi 0, .string ⟨#[]⟩, .bool false, .bool false, .bool false]) rfl (by kernel_rfl)) rfl ?_
                            refine WL.storeAll h4 0 rfl rfl rfl inf49 rfl rfl rfl (Free.zero _) ?_
                            intro  w29 h29
                            try simp only [lz, ls, ez, es'] at h29
                            refine WL.v (Runs.assign rfl) rfl ?_
                            refine WL.nil (WN.thn (WC.ret ?_))
                            have hv : decideM id z m f = (A0, 5) := by unfold decideM; rw [if_neg (by rintro (hh | hh | hh | hh); exact hh ⟨by omega, by omega⟩; exact hh ⟨by omega, by omega⟩; exact hh q4; exact hh q5), if_neg c11, if_neg c14, if_neg (by omega), if_neg (by omega), if_neg (by omega), if_neg c26]
                            refine retB rfl (ResOk.blk h29 0 rfl Try.underlying49 rfl inf49 rfl rfl) (show lk _ _ = _ from rfl) ⟨F, none, 0, Le.refl F, by rw [hv] <;> rfl, by rw [hv]; exact .inl rfl, ((((h29.drop 0).drop 0).drop 0).drop 0)⟩
set_option maxRecDepth 100000 in
set_option maxHeartbeats 8000000 in
theorem qexit_c {W : World} {F : Snap} {cs : List Res} (w : World) {AJ AS : Option Addr} {cj cS : Nat} {z : Z} {Al : Option Addr} {cl : Nat} {r : R} {Ac_ : Option Addr} {cc : Nat} {codes : List Int} (id : Int) (hcd : RdS (Kd.one Vi) F Ac_ codes) (hcn : codes.length ≤ 100000) (hz : few z) (hR : ZR F AJ AS z) (h : St W F cs w) : Calls Try.prog 20 #[Vi id, .agg #[.slice AJ z.js.length cj, .slice AS z.ss.length cS, .bool z.dr], .agg #[Vi r.kd, Vi r.jb, Vi r.ep, Vi r.st, Vi r.ar, .slice Al r.ls.length cl], .slice Ac_ codes.length cc] w fun e w' => ∃ G A cap, Le F G ∧ e = .returned (.tuple #[.agg (acv A cap (exitM id z r codes).1), Vi (exitM id z r codes).2]) ∧ RdS (Kd.one Vi) G A (exitM id z r codes).1.rc.ls ∧ St W G cs w'  := by
  refine enter (P := Try.prog) (args := [Vi id, .agg #[.slice AJ z.js.length cj, .slice AS z.ss.length cS, .bool z.dr], .agg #[Vi r.kd, Vi r.jb, Vi r.ep, Vi r.st, Vi r.ar, .slice Al r.ls.length cl], .slice Ac_ codes.length cc]) Try.func20 rfl rfl rfl ?_
  have hzj := hz.j
  have hzs := hz.s
  refine WC.seq (WC.reg ?_)
  refine WL.box rfl h rfl ?_
  intro b5 w1 h1
  refine WL.box rfl h1 rfl ?_
  intro b6 w2 h2
  refine WL.alloc' rfl h2 inf49 ?_
  intro b8 w3 h3
  refine WL.v (Runs.assign rfl) rfl ?_
  refine WL.nil (WN.thn (WC.seq (WC.seq ?_)))
  rcases three (¬ id < 0) (¬ 15 < id) (¬ codes.length = 0) with q0 | ⟨q0, q1⟩ | ⟨q0, q1, q2⟩ | ⟨q0, q1, q2⟩
  · skip
    refine WC.reg ?_
    refine WL.v (Runs.move rfl) rfl ?_
    refine WL.v (Runs.boolT (c := true) (Runs.lss rfl rfl) (by rw [decide_eq_true_eq]; omega)) rfl ?_
    refine WL.v (Runs.move rfl) rfl ?_
    refine WL.goff rfl rfl rfl rfl ?_
    refine WL.goff rfl rfl rfl rfl ?_
    refine WL.v (Runs.pick rfl rfl rfl) rfl ?_
    refine WL.v (Runs.move rfl) rfl ?_
    refine WL.goff rfl rfl rfl rfl ?_
    refine WL.goff rfl rfl rfl rfl ?_
    refine WL.goff rfl rfl rfl rfl ?_
    refine WL.v (Runs.pick rfl rfl rfl) rfl ?_
    refine WL.nil (WN.thn ?_)
    refine WC.condT rfl (rfl) ?_
    refine WC.seq (WC.reg ?_)
    refine WL.v (Runs.build (vs := []) (cells := #[.bool false, Vi 0, Vi 0, Vi 0, Vi 0, Vi 0, .slice none 0 0, .bool false, Vi 0, Vi 0, Vi 0, Vi 0, Vi 0, Vi 0, Vi 0, .string ⟨#[]⟩, .bool false, .bool false, .bool false]) rfl (by kernel_rfl)) rfl ?_
    refine WL.storeAll h3 0 rfl rfl rfl inf49 rfl rfl rfl (Free.zero _) ?_
    intro  w4 h4
    try simp only [lz, ls, ez, es'] at h4
    refine WL.v (Runs.assign rfl) rfl ?_
    refine WL.nil (WN.thn (WC.ret ?_))
    have hv : exitM id z r codes = (A0, 1) := by unfold exitM; rw [if_pos (.inl (by omega))]
    refine retB rfl (ResOk.blk h4 0 rfl Try.underlying49 rfl inf49 rfl rfl) (show lk _ _ = _ from rfl) ⟨F, none, 0, Le.refl F, by rw [hv] <;> rfl, by rw [hv]; exact .inl rfl, (((h4.drop 0).drop 0).drop 0)⟩
  · skip
    refine WC.reg ?_
    refine WL.v (Runs.move rfl) rfl ?_
    refine WL.v (Runs.boolT (c := false) (Runs.lss rfl rfl) (by rw [decide_eq_false_iff_not]; omega)) rfl ?_
    refine WL.v (Runs.move rfl) rfl ?_
    refine WL.gon rfl rfl rfl ?_
    refine WL.v (Runs.move rfl) rfl ?_
    refine WL.gon rfl rfl rfl ?_
    refine WL.v (Runs.boolT (c := true) (Runs.gtr rfl rfl) (by rw [decide_eq_true_eq]; omega)) rfl ?_
    refine WL.v (Runs.pick rfl rfl rfl) rfl ?_
    refine WL.v (Runs.move rfl) rfl ?_
    refine WL.goff rfl rfl rfl rfl ?_
    refine WL.goff rfl rfl rfl rfl ?_
    refine WL.goff rfl rfl rfl rfl ?_
    refine WL.v (Runs.pick rfl rfl rfl) rfl ?_
    refine WL.nil (WN.thn ?_)
    refine WC.condT rfl (rfl) ?_
    refine WC.seq (WC.reg ?_)
    refine WL.v (Runs.build (vs := []) (cells := #[.bool false, Vi 0, Vi 0, Vi 0, Vi 0, Vi 0, .slice none 0 0, .bool false, Vi 0, Vi 0, Vi 0, Vi 0, Vi 0, Vi 0, Vi 0, .string ⟨#[]⟩, .bool false, .bool false, .bool false]) rfl (by kernel_rfl)) rfl ?_
    refine WL.storeAll h3 0 rfl rfl rfl inf49 rfl rfl rfl (Free.zero _) ?_
    intro  w5 h5
    try simp only [lz, ls, ez, es'] at h5
    refine WL.v (Runs.assign rfl) rfl ?_
    refine WL.nil (WN.thn (WC.ret ?_))
    have hv : exitM id z r codes = (A0, 1) := by unfold exitM; rw [if_pos (.inl (by omega))]
    refine retB rfl (ResOk.blk h5 0 rfl Try.underlying49 rfl inf49 rfl rfl) (show lk _ _ = _ from rfl) ⟨F, none, 0, Le.refl F, by rw [hv] <;> rfl, by rw [hv]; exact .inl rfl, (((h5.drop 0).drop 0).drop 0)⟩
  · skip
    refine WC.reg ?_
    refine WL.v (Runs.move rfl) rfl ?_
    refine WL.v (Runs.boolT (c := false) (Runs.lss rfl rfl) (by rw [decide_eq_false_iff_not]; omega)) rfl ?_
    refine WL.v (Runs.move rfl) rfl ?_
    refine WL.gon rfl rfl rfl ?_
    refine WL.v (Runs.move rfl) rfl ?_
    refine WL.gon rfl rfl rfl ?_
    refine WL.v (Runs.boolT (c := false) (Runs.gtr rfl rfl) (by rw [decide_eq_false_iff_not]; omega)) rfl ?_
    refine WL.v (Runs.pick rfl rfl rfl) rfl ?_
    refine WL.v (Runs.move rfl) rfl ?_
    refine WL.gon rfl rfl rfl ?_
    refine WL.v (Runs.move rfl) rfl ?_
    refine WL.gon rfl rfl rfl ?_
    refine WL.v (Runs.llen Try.underlying29 rfl rfl) rfl ?_
    refine WL.gon rfl rfl rfl ?_
    refine WL.v (Runs.boolT (c := true) (Runs.eql rfl rfl) (by rw [decide_eq_true_eq]; omega)) rfl ?_
    refine WL.v (Runs.pick rfl rfl rfl) rfl ?_
    refine WL.nil (WN.thn ?_)
    refine WC.condT rfl (rfl) ?_
    refine WC.seq (WC.reg ?_)
    refine WL.v (Runs.build (vs := []) (cells := #[.bool false, Vi 0, Vi 0, Vi 0, Vi 0, Vi 0, .slice none 0 0, .bool false, Vi 0, Vi 0, Vi 0, Vi 0, Vi 0, Vi 0, Vi 0, .string ⟨#[]⟩, .bool false, .bool false, .bool false]) rfl (by kernel_rfl)) rfl ?_
    refine WL.storeAll h3 0 rfl rfl rfl inf49 rfl rfl rfl (Free.zero _) ?_
    intro  w6 h6
    try simp only [lz, ls, ez, es'] at h6
    refine WL.v (Runs.assign rfl) rfl ?_
    refine WL.nil (WN.thn (WC.ret ?_))
    have hv : exitM id z r codes = (A0, 1) := by unfold exitM; rw [if_pos (.inr (.inl (by omega)))]
    refine retB rfl (ResOk.blk h6 0 rfl Try.underlying49 rfl inf49 rfl rfl) (show lk _ _ = _ from rfl) ⟨F, none, 0, Le.refl F, by rw [hv] <;> rfl, by rw [hv]; exact .inl rfl, (((h6.drop 0).drop 0).drop 0)⟩
  · replace q0 : 0 ≤ id ∧ id ≤ 15 := ⟨by omega, by omega⟩
    replace q1 := q2
    refine WC.reg ?_
    refine WL.v (Runs.move rfl) rfl ?_
    refine WL.v (Runs.boolT (c := false) (Runs.lss rfl rfl) (by rw [decide_eq_false_iff_not]; omega)) rfl ?_
    refine WL.v (Runs.move rfl) rfl ?_
    refine WL.gon rfl rfl rfl ?_
    refine WL.v (Runs.move rfl) rfl ?_
    refine WL.gon rfl rfl rfl ?_
    refine WL.v (Runs.boolT (c := false) (Runs.gtr rfl rfl) (by rw [decide_eq_false_iff_not]; omega)) rfl ?_
    refine WL.v (Runs.pick rfl rfl rfl) rfl ?_
    refine WL.v (Runs.move rfl) rfl ?_
    refine WL.gon rfl rfl rfl ?_
    refine WL.v (Runs.move rfl) rfl ?_
    refine WL.gon rfl rfl rfl ?_
    refine WL.v (Runs.llen Try.underlying29 rfl rfl) rfl ?_
    refine WL.gon rfl rfl rfl ?_
    refine WL.v (Runs.boolT (c := false) (Runs.eql rfl rfl) (by rw [decide_eq_false_iff_not]; omega)) rfl ?_
    refine WL.v (Runs.pick rfl rfl rfl) rfl ?_
    refine WL.nil (WN.thn ?_)
    refine WC.condF rfl (rfl) ?_
    refine WC.skip (WN.thn (WC.seq (WC.seq (WC.reg ?_))))
    refine WL.v (Runs.assign rfl) rfl ?_
    refine WL.nil (WN.thn (WC.block ?_))
    refine WC.loop (σ := Nat) (fun q_ => [(0, Vi id), (3, .slice Ac_ codes.length cc), (5, .pointer (some ⟨b5, 0, none⟩)), (6, .pointer (some ⟨b6, 0, none⟩)), (8, .pointer (some ⟨b8, 0, none⟩)), (10, .int .i64 (q_ : Int))]) (fun q_ w => q_ ≤ codes.length ∧ (∀ j, j < q_ → (fun c => !inB c 0 255) (codes.getD j 0) = false) ∧ St W F ([(b8, .cells #[.bool false, Vi 0, Vi 0, Vi 0, Vi 0, Vi 0, .slice none 0 0, .bool false, Vi 0, Vi 0, Vi 0, Vi 0, Vi 0, Vi 0, Vi 0, .string ⟨#[]⟩, .bool false, .bool false, .bool false] 49 (0, 0))] :: [(b6, .cells #[Vi r.kd, Vi r.jb, Vi r.ep, Vi r.st, Vi r.ar, .slice Al r.ls.length cl] 37 (0, 0))] :: [(b5, .cells #[.slice AJ z.js.length cj, .slice AS z.ss.length cS, .bool z.dr] 25 (0, 0))] :: cs) w) (fun q_ => codes.length - q_) (0) (by repeat (first | exact trivial | refine ⟨rfl, ?_⟩)) (⟨Nat.zero_le _, fun j hj => absurd hj (Nat.not_lt_zero _), h3⟩) ?_
    rintro i w7 ⟨hi, hno, hL⟩
    try dsimp only at hi hno hL
    refine WC.sub (s := [(0, Vi id), (3, .slice Ac_ codes.length cc), (5, .pointer (some ⟨b5, 0, none⟩)), (6, .pointer (some ⟨b6, 0, none⟩)), (8, .pointer (some ⟨b8, 0, none⟩)), (10, .int .i64 (i : Int))]) (by repeat (first | exact trivial | refine ⟨rfl, ?_⟩)) ?_
    refine WC.seq (WC.seq (WC.reg ?_))
    refine WL.v (Runs.move rfl) rfl ?_
    refine WL.v (Runs.move rfl) rfl ?_
    refine WL.v (Runs.llen Try.underlying29 rfl rfl) rfl ?_
    refine WL.v (Runs.lss rfl rfl) rfl ?_
    refine WL.nil (WN.thn ?_)
    refine WC.cond rfl (fun c8 => ?_) (fun c8 => ?_)
    · try simp only [dt, df, nt, nf, ba, il, ie] at c8
      first
      | (exfalso; omega)
      | skip
        refine WC.skip (WN.thn (WC.seq (WC.block (WC.seq ?_))))
        have hi2 : i < codes.length := by omega
        obtain ⟨ad, rfl, hrd⟩ := rd1 hcd (by omega)
        rcases two (¬ codes.getD i 0 < 0) (¬ 255 < codes.getD i 0) with e0 | ⟨e0, e1⟩ | ⟨e0, e1⟩
        · skip
          refine WC.reg ?_
          refine WL.v (Runs.move rfl) rfl ?_
          refine WL.v (Runs.move rfl) rfl ?_
          refine WL.v (Runs.lidxN Try.underlying29 inf3 rfl rfl (n := i) rfl hi2) rfl ?_
          refine WL.v (Runs.loadR (f := Vi) (0 : Int) hL hrd (n := i) hi2 Try.underlying3 rfl rfl) rfl ?_
          refine WL.v (Runs.boolT (c := true) (Runs.lss rfl rfl) (by rw [decide_eq_true_eq]; omega)) rfl ?_
          refine WL.v (Runs.move rfl) rfl ?_
          refine WL.goff rfl rfl rfl rfl ?_
          refine WL.goff rfl rfl rfl rfl ?_
          refine WL.goff rfl rfl rfl rfl ?_
          refine WL.goff rfl rfl rfl rfl ?_
          refine WL.goff rfl rfl rfl rfl ?_
          refine WL.v (Runs.pick rfl rfl rfl) rfl ?_
          refine WL.nil (WN.thn ?_)
          refine WC.condT rfl (rfl) ?_
          refine WC.seq (WC.reg ?_)
          refine WL.v (Runs.build (vs := []) (cells := #[.bool false, Vi 0, Vi 0, Vi 0, Vi 0, Vi 0, .slice none 0 0, .bool false, Vi 0, Vi 0, Vi 0, Vi 0, Vi 0, Vi 0, Vi 0, .string ⟨#[]⟩, .bool false, .bool false, .bool false]) rfl (by kernel_rfl)) rfl ?_
          refine WL.storeAll hL 0 rfl rfl rfl inf49 rfl rfl rfl (Free.zero _) ?_
          intro  w9 h9
          try simp only [lz, ls, ez, es'] at h9
          refine WL.v (Runs.assign rfl) rfl ?_
          refine WL.nil (WN.thn (WC.ret ?_))
          have hv : exitM id z r codes = (A0, 1) := by unfold exitM; rw [if_pos (.inr (.inr (any_t (p := fun c => !inB c 0 255) (d := 0) hi2 (by show (!inB (codes.getD i 0) 0 255) = true; unfold inB; rw [decide_eq_false (by omega)]; rfl))))]
          refine retB rfl (ResOk.blk h9 0 rfl Try.underlying49 rfl inf49 rfl rfl) (show lk _ _ = _ from rfl) ⟨F, none, 0, Le.refl F, by rw [hv] <;> rfl, by rw [hv]; exact .inl rfl, (((h9.drop 0).drop 0).drop 0)⟩
        · skip
          refine WC.reg ?_
          refine WL.v (Runs.move rfl) rfl ?_
          refine WL.v (Runs.move rfl) rfl ?_
          refine WL.v (Runs.lidxN Try.underlying29 inf3 rfl rfl (n := i) rfl hi2) rfl ?_
          refine WL.v (Runs.loadR (f := Vi) (0 : Int) hL hrd (n := i) hi2 Try.underlying3 rfl rfl) rfl ?_
          refine WL.v (Runs.boolT (c := false) (Runs.lss rfl rfl) (by rw [decide_eq_false_iff_not]; omega)) rfl ?_
          refine WL.v (Runs.move rfl) rfl ?_
          refine WL.gon rfl rfl rfl ?_
          refine WL.v (Runs.move rfl) rfl ?_
          refine WL.gon rfl rfl rfl ?_
          refine WL.v (Runs.move rfl) rfl ?_
          refine WL.gon rfl rfl rfl ?_
          refine WL.v (Runs.lidxN Try.underlying29 inf3 rfl rfl (n := i) rfl hi2) rfl ?_
          refine WL.gon rfl rfl rfl ?_
          refine WL.v (Runs.loadR (f := Vi) (0 : Int) hL hrd (n := i) hi2 Try.underlying3 rfl rfl) rfl ?_
          refine WL.gon rfl rfl rfl ?_
          refine WL.v (Runs.boolT (c := true) (Runs.gtr rfl rfl) (by rw [decide_eq_true_eq]; omega)) rfl ?_
          refine WL.v (Runs.pick rfl rfl rfl) rfl ?_
          refine WL.nil (WN.thn ?_)
          refine WC.condT rfl (rfl) ?_
          refine WC.seq (WC.reg ?_)
          refine WL.v (Runs.build (vs := []) (cells := #[.bool false, Vi 0, Vi 0, Vi 0, Vi 0, Vi 0, .slice none 0 0, .bool false, Vi 0, Vi 0, Vi 0, Vi 0, Vi 0, Vi 0, Vi 0, .string ⟨#[]⟩, .bool false, .bool false, .bool false]) rfl (by kernel_rfl)) rfl ?_
          refine WL.storeAll hL 0 rfl rfl rfl inf49 rfl rfl rfl (Free.zero _) ?_
          intro  w10 h10
          try simp only [lz, ls, ez, es'] at h10
          refine WL.v (Runs.assign rfl) rfl ?_
          refine WL.nil (WN.thn (WC.ret ?_))
          have hv : exitM id z r codes = (A0, 1) := by unfold exitM; rw [if_pos (.inr (.inr (any_t (p := fun c => !inB c 0 255) (d := 0) hi2 (by show (!inB (codes.getD i 0) 0 255) = true; unfold inB; rw [decide_eq_false (by omega)]; rfl))))]
          refine retB rfl (ResOk.blk h10 0 rfl Try.underlying49 rfl inf49 rfl rfl) (show lk _ _ = _ from rfl) ⟨F, none, 0, Le.refl F, by rw [hv] <;> rfl, by rw [hv]; exact .inl rfl, (((h10.drop 0).drop 0).drop 0)⟩
        · skip
          refine WC.reg ?_
          refine WL.v (Runs.move rfl) rfl ?_
          refine WL.v (Runs.move rfl) rfl ?_
          refine WL.v (Runs.lidxN Try.underlying29 inf3 rfl rfl (n := i) rfl hi2) rfl ?_
          refine WL.v (Runs.loadR (f := Vi) (0 : Int) hL hrd (n := i) hi2 Try.underlying3 rfl rfl) rfl ?_
          refine WL.v (Runs.boolT (c := false) (Runs.lss rfl rfl) (by rw [decide_eq_false_iff_not]; omega)) rfl ?_
          refine WL.v (Runs.move rfl) rfl ?_
          refine WL.gon rfl rfl rfl ?_
          refine WL.v (Runs.move rfl) rfl ?_
          refine WL.gon rfl rfl rfl ?_
          refine WL.v (Runs.move rfl) rfl ?_
          refine WL.gon rfl rfl rfl ?_
          refine WL.v (Runs.lidxN Try.underlying29 inf3 rfl rfl (n := i) rfl hi2) rfl ?_
          refine WL.gon rfl rfl rfl ?_
          refine WL.v (Runs.loadR (f := Vi) (0 : Int) hL hrd (n := i) hi2 Try.underlying3 rfl rfl) rfl ?_
          refine WL.gon rfl rfl rfl ?_
          refine WL.v (Runs.boolT (c := false) (Runs.gtr rfl rfl) (by rw [decide_eq_false_iff_not]; omega)) rfl ?_
          refine WL.v (Runs.pick rfl rfl rfl) rfl ?_
          refine WL.nil (WN.thn ?_)
          refine WC.condF rfl (rfl) ?_
          refine WC.skip (WN.blk (WN.thn (WC.reg ?_)))
          refine WL.v (Runs.move rfl) rfl ?_
          refine WL.v (Runs.addn rfl rfl (by omega)) rfl ?_
          refine WL.v (Runs.assign rfl) rfl ?_
          refine WL.nil ?_
          exact WN.again (i + 1) (by omega) ⟨rfl, rfl, rfl, rfl, rfl, rfl, trivial⟩ ⟨by omega, fun j hj => (by
            by_cases e : j = i
            · subst e; show (!inB (codes.getD j 0) 0 255) = false; unfold inB; rw [decide_eq_true (by omega)]; rfl
            · exact hno j (by omega)), hL⟩
    · try simp only [dt, df, nt, nf, ba, il, ie] at c8
      first
      | (exfalso; omega)
      | skip
        refine WC.exit (WX.thn (WX.cut (WX.hit (WN.thn (WC.seq ?_)))))
        refine WC.reg ?_
        refine WL.v (Runs.loadAll hL 2 rfl Try.underlying25 rfl inf25 rfl rfl) rfl ?_
        refine WL.v (Runs.fld fld37_1 rfl) rfl ?_
        refine WL.v (Runs.load1 Try.underlying3 rfl rfl (hL.ocell (i := 1) rfl rfl)) rfl ?_
        refine WL.v (Runs.fld fld37_2 rfl) rfl ?_
        refine WL.v (Runs.load1 Try.underlying3 rfl rfl (hL.ocell (i := 1) rfl rfl)) rfl ?_
        refine WL.v (Runs.fld fld37_3 rfl) rfl ?_
        refine WL.v (Runs.load1 Try.underlying3 rfl rfl (hL.ocell (i := 1) rfl rfl)) rfl ?_
        refine WL.call can40 rfl rfl (qstepOf_c _ r.jb r.ep r.st hL hR.s (by omega)) ?_
        rintro _ w11 ⟨⟨A1, c1, rfl, hps⟩, h11⟩
        refine ⟨_, rfl, ?_⟩
        refine WL.v (Runs.move rfl) rfl ?_
        refine WL.v (Runs.extract rfl rfl) rfl ?_
        refine WL.v (Runs.extract rfl rfl) rfl ?_
        refine WL.alloc' rfl h11 inf79 ?_
        intro b11 w12 h12
        refine WL.storeAll h12 0 rfl rfl rfl inf79 rfl rfl rfl (Free.zero _) ?_
        intro  w13 h13
        try simp only [lz, ls, ez, es'] at h13
        refine WL.v (Runs.assign rfl) rfl ?_
        refine WL.nil (WN.thn (WC.seq (WC.seq ?_)))
        rcases two (hasS z (mA r) = true) (phS z (mA r) = 1) with g0 | ⟨g0, g1⟩ | ⟨g0, g1⟩
        · replace g0 := Bool.eq_false_iff.2 g0
          refine WC.reg ?_
          refine WL.v (Runs.boolT (c := false) (Runs.move rfl) g0) rfl ?_
          refine WL.v (Runs.not rfl) rfl ?_
          refine WL.v (Runs.move rfl) rfl ?_
          refine WL.goff rfl rfl rfl rfl ?_
          refine WL.goff rfl rfl rfl rfl ?_
          refine WL.goff rfl rfl rfl rfl ?_
          refine WL.v (Runs.pick rfl rfl rfl) rfl ?_
          refine WL.nil (WN.thn ?_)
          refine WC.condT rfl (rfl) ?_
          refine WC.seq (WC.reg ?_)
          refine WL.v (Runs.build (vs := []) (cells := #[.bool false, Vi 0, Vi 0, Vi 0, Vi 0, Vi 0, .slice none 0 0, .bool false, Vi 0, Vi 0, Vi 0, Vi 0, Vi 0, Vi 0, Vi 0, .string ⟨#[]⟩, .bool false, .bool false, .bool false]) rfl (by kernel_rfl)) rfl ?_
          refine WL.storeAll h13 1 rfl rfl rfl inf49 rfl rfl rfl (Free.zero _) ?_
          intro  w14 h14
          try simp only [lz, ls, ez, es'] at h14
          refine WL.v (Runs.assign rfl) rfl ?_
          refine WL.nil (WN.thn (WC.ret ?_))
          have hv : exitM id z r codes = (A0, 14) := by unfold exitM; rw [if_neg (by rintro (hh | hh | hh); exact hh q0; exact q1 hh; rw [any_f (p := fun c => !inB c 0 255) (d := 0) (fun j hj => hno j (by omega))] at hh; cases hh), if_pos (show phB z (mA r) 1 = false from by unfold phB; rw [g0] <;> rfl)]
          refine retB rfl (ResOk.blk h14 1 rfl Try.underlying49 rfl inf49 rfl rfl) (show lk _ _ = _ from rfl) ⟨F, none, 0, Le.refl F, by rw [hv] <;> rfl, by rw [hv]; exact .inl rfl, ((((h14.drop 0).drop 0).drop 0).drop 0)⟩
        · skip
          refine WC.reg ?_
          refine WL.v (Runs.boolT (c := true) (Runs.move rfl) g0) rfl ?_
          refine WL.v (Runs.not rfl) rfl ?_
          refine WL.v (Runs.move rfl) rfl ?_
          refine WL.gon rfl rfl rfl ?_
          refine WL.v (Runs.fld fld79_3 rfl) rfl ?_
          refine WL.gon rfl rfl rfl ?_
          refine WL.v (Runs.load1 Try.underlying3 rfl rfl (h13.ocell (i := 0) rfl rfl)) rfl ?_
          refine WL.gon rfl rfl rfl ?_
          refine WL.v (Runs.boolT (c := true) (Runs.neq rfl rfl) (show (!decide (phS z (mA r) = 1)) = true by rw [decide_eq_false g1]; rfl)) rfl ?_
          refine WL.v (Runs.pick rfl rfl rfl) rfl ?_
          refine WL.nil (WN.thn ?_)
          refine WC.condT rfl (rfl) ?_
          refine WC.seq (WC.reg ?_)
          refine WL.v (Runs.build (vs := []) (cells := #[.bool false, Vi 0, Vi 0, Vi 0, Vi 0, Vi 0, .slice none 0 0, .bool false, Vi 0, Vi 0, Vi 0, Vi 0, Vi 0, Vi 0, Vi 0, .string ⟨#[]⟩, .bool false, .bool false, .bool false]) rfl (by kernel_rfl)) rfl ?_
          refine WL.storeAll h13 1 rfl rfl rfl inf49 rfl rfl rfl (Free.zero _) ?_
          intro  w15 h15
          try simp only [lz, ls, ez, es'] at h15
          refine WL.v (Runs.assign rfl) rfl ?_
          refine WL.nil (WN.thn (WC.ret ?_))
          have hv : exitM id z r codes = (A0, 14) := by unfold exitM; rw [if_neg (by rintro (hh | hh | hh); exact hh q0; exact q1 hh; rw [any_f (p := fun c => !inB c 0 255) (d := 0) (fun j hj => hno j (by omega))] at hh; cases hh), if_pos (show phB z (mA r) 1 = false from by unfold phB; rw [g0, decide_eq_false g1] <;> rfl)]
          refine retB rfl (ResOk.blk h15 1 rfl Try.underlying49 rfl inf49 rfl rfl) (show lk _ _ = _ from rfl) ⟨F, none, 0, Le.refl F, by rw [hv] <;> rfl, by rw [hv]; exact .inl rfl, ((((h15.drop 0).drop 0).drop 0).drop 0)⟩
        · skip
          refine WC.reg ?_
          refine WL.v (Runs.boolT (c := true) (Runs.move rfl) g0) rfl ?_
          refine WL.v (Runs.not rfl) rfl ?_
          refine WL.v (Runs.move rfl) rfl ?_
          refine WL.gon rfl rfl rfl ?_
          refine WL.v (Runs.fld fld79_3 rfl) rfl ?_
          refine WL.gon rfl rfl rfl ?_
          refine WL.v (Runs.load1 Try.underlying3 rfl rfl (h13.ocell (i := 0) rfl rfl)) rfl ?_
          refine WL.gon rfl rfl rfl ?_
          refine WL.v (Runs.boolT (c := false) (Runs.neq rfl rfl) (show (!decide (phS z (mA r) = 1)) = false by rw [decide_eq_true g1]; rfl)) rfl ?_
          refine WL.v (Runs.pick rfl rfl rfl) rfl ?_
          refine WL.nil (WN.thn ?_)
          refine WC.condF rfl (rfl) ?_
          refine WC.skip (WN.thn (WC.seq (WC.reg ?_)))
          refine WL.v (Runs.fld fld37_1 rfl) rfl ?_
          refine WL.v (Runs.load1 Try.underlying3 rfl rfl (h13.ocell (i := 2) rfl rfl)) rfl ?_
          refine WL.v (Runs.fld fld37_2 rfl) rfl ?_
          refine WL.v (Runs.load1 Try.underlying3 rfl rfl (h13.ocell (i := 2) rfl rfl)) rfl ?_
          refine WL.v (Runs.fld fld37_3 rfl) rfl ?_
          refine WL.v (Runs.load1 Try.underlying3 rfl rfl (h13.ocell (i := 2) rfl rfl)) rfl ?_
          refine WL.v (Runs.build (vs := [(3, Vi r.jb), (4, Vi r.ep), (5, Vi r.st)]) (cells := #[Vi 0, Vi 0, Vi 0, Vi r.jb, Vi r.ep, Vi r.st, Vi 0, .string ⟨#[]⟩]) rfl (by kernel_rfl)) rfl ?_
          refine WL.alloc' rfl h13 inf27 ?_
          intro b13 w16 h16
          refine WL.storeAll h16 0 rfl rfl rfl inf27 rfl rfl rfl (Free.zero _) ?_
          intro  w17 h17
          try simp only [lz, ls, ez, es'] at h17
          refine WL.nil (WN.thn (WC.seq (WC.reg ?_)))
          refine WL.v (Runs.move rfl) rfl ?_
          refine WL.call can47 rfl rfl (rworst_c _ h17 hcd hcn) ?_
          rintro _ w18 ⟨rfl, h18⟩
          refine ⟨_, rfl, ?_⟩
          refine WL.v (Runs.assign rfl) rfl ?_
          refine WL.nil (WN.thn (WC.seq ?_))
          refine WC.eregK h18 h18 (fun s_ => ([8] : List Nat).any (Nat.beq s_)) mixed (by kernel_rfl) (fun hx => ?_)
          intro w19 h19
          refine WE.p0 hx 0 (by rfl) (fun w_ => Runs.build (vs := []) (cells := #[.bool false, Vi 0, Vi 0, Vi 0, Vi 0, Vi 0, .slice none 0 0, .bool false, Vi 0, Vi 0, Vi 0, Vi 0, Vi 0, Vi 0, Vi 0, .string ⟨#[]⟩, .bool false, .bool false, .bool false]) rfl (by kernel_rfl)) rfl ?_
          refine WE.p0 hx 2 (by rfl) (fun w_ => Runs.move rfl) rfl ?_
          refine WE.p0 hx 4 (by rfl) (fun w_ => Runs.move rfl) rfl ?_
          refine WE.p0 hx 6 (by rfl) (fun w_ => Runs.move rfl) rfl ?_
          refine WE.v0 12 hx 1 (by rfl) (fun w_ hE_ => Runs.loadAll hE_ 0 rfl Try.underlying27 rfl inf27 rfl rfl) rfl ?_
          refine WE.v0 12 hx 5 (by rfl) (fun w_ hE_ => Runs.loadAll hE_ 0 rfl Try.underlying27 rfl inf27 rfl rfl) rfl ?_
          refine WE.op (.inr h19) (i := 3) (by rfl) (by kernel_rfl) ?_
          refine WL.call can49 rfl rfl ((show Calls _ _ #[.agg (acv none 0 A0), _, _, _] _ _ from qwrite_c _ (m := mA r) (a := A0) 5 (worst codes) h19)) ?_
          rintro _ w20 ⟨rfl, h20⟩
          refine ⟨_, rfl, ?_⟩
          refine WL.nil (WE.next ?_)
          refine WE.op (.inr h20) (i := 7) (by rfl) (by kernel_rfl) ?_
          refine WL.call can48 rfl rfl ((show Calls _ _ #[.agg (acv none 0 (wrM (mA r) 5 (worst codes))), _, _, _, _] _ _ from qanswer_c _ id (m := mA r) (a := wrM (mA r) 5 (worst codes)) 6 (worst codes) h20)) ?_
          rintro _ w21 ⟨rfl, h21⟩
          refine ⟨_, rfl, ?_⟩
          refine WL.nil (WE.next ?_)
          refine WE.op (.inr h21) (i := 8) (by rfl) (by kernel_rfl) ?_
          refine WL.storeAll h21 2 rfl rfl rfl inf49 rfl rfl rfl (Free.zero _) ?_
          intro  w22 h22
          try simp only [lz, ls, ez, es'] at h22
          refine WL.nil (WE.next ?_)
          refine WE.p0 hx 9 (by rfl) (fun w_ => Runs.assign rfl) rfl ?_
          refine WE.fin (.inl ⟨8, rfl, by kernel_rfl⟩) (by kernel_rfl) ?_
          refine WN.thn (WC.ret ?_)
          have hv : exitM id z r codes = (anM id (mA r) (wrM (mA r) 5 (worst codes)) 6 (worst codes), 0) := by unfold exitM; rw [if_neg (by rintro (hh | hh | hh); exact hh q0; exact q1 hh; rw [any_f (p := fun c => !inB c 0 255) (d := 0) (fun j hj => hno j (by omega))] at hh; cases hh), if_neg (show ¬ phB z (mA r) 1 = false from by unfold phB; rw [g0, decide_eq_true g1]; decide)]
          refine retB rfl (ResOk.blk h22 2 rfl Try.underlying49 rfl inf49 rfl rfl) (show lk _ _ = _ from rfl) ⟨F, none, 0, Le.refl F, by rw [hv] <;> rfl, by rw [hv]; exact .inl rfl, (((((h22.drop 0).drop 0).drop 0).drop 0).drop 0)⟩
set_option maxRecDepth 100000 in
set_option maxHeartbeats 8000000 in
theorem qasks_c {W : World} {F : Snap} {cs : List Res} (w : World) {AJ AS : Option Addr} {cj cS : Nat} {z : Z} {m : M} (hz : few z) (hR : ZR F AJ AS z) (h : St W F cs w) : Calls Try.prog 18 #[.agg #[.slice AJ z.js.length cj, .slice AS z.ss.length cS, .bool z.dr], .agg #[Vi m.kd, Vi m.fr, Vi m.to, Vi m.jb, Vi m.ep, Vi m.st, Vi m.ar, .string m.tx]] w fun e w' => e = .returned (.bool (asksM z m)) ∧ St W F cs w'  := by
  refine enter (P := Try.prog) (args := [.agg #[.slice AJ z.js.length cj, .slice AS z.ss.length cS, .bool z.dr], .agg #[Vi m.kd, Vi m.fr, Vi m.to, Vi m.jb, Vi m.ep, Vi m.st, Vi m.ar, .string m.tx]]) Try.func18 rfl rfl rfl ?_
  have hzj := hz.j
  have hzs := hz.s
  refine WC.seq (WC.reg ?_)
  refine WL.box rfl h rfl ?_
  intro b2 w1 h1
  refine WL.box rfl h1 rfl ?_
  intro b3 w2 h2
  refine WL.v (Runs.assign rfl) rfl ?_
  refine WL.nil (WN.thn (WC.seq (WC.reg ?_)))
  refine WL.v (Runs.loadAll h2 1 rfl Try.underlying25 rfl inf25 rfl rfl) rfl ?_
  refine WL.v (Runs.fld fld27_3 rfl) rfl ?_
  refine WL.v (Runs.load1 Try.underlying3 rfl rfl (h2.ocell (i := 0) rfl rfl)) rfl ?_
  refine WL.v (Runs.fld fld27_4 rfl) rfl ?_
  refine WL.v (Runs.load1 Try.underlying3 rfl rfl (h2.ocell (i := 0) rfl rfl)) rfl ?_
  refine WL.v (Runs.fld fld27_5 rfl) rfl ?_
  refine WL.v (Runs.load1 Try.underlying3 rfl rfl (h2.ocell (i := 0) rfl rfl)) rfl ?_
  refine WL.call can40 rfl rfl (qstepOf_c _ m.jb m.ep m.st h2 hR.s (by omega)) ?_
  rintro _ w3 ⟨⟨A1, c1, rfl, hps⟩, h3⟩
  refine ⟨_, rfl, ?_⟩
  refine WL.v (Runs.move rfl) rfl ?_
  refine WL.v (Runs.extract rfl rfl) rfl ?_
  refine WL.v (Runs.extract rfl rfl) rfl ?_
  refine WL.alloc' rfl h3 inf79 ?_
  intro b5 w4 h4
  refine WL.storeAll h4 0 rfl rfl rfl inf79 rfl rfl rfl (Free.zero _) ?_
  intro  w5 h5
  try simp only [lz, ls, ez, es'] at h5
  refine WL.v (Runs.assign rfl) rfl ?_
  refine WL.nil (WN.thn (WC.seq ?_))
  rcases fiveC (m.kd = 2) (m.fr = -1) (m.to ≥ 0) (m.to ≤ 15) (hasS z m = false) with q0 | ⟨q0, q1⟩ | ⟨q0, q1, q2⟩ | ⟨q0, q1, q2, q3⟩ | ⟨q0, q1, q2, q3, q4⟩ | ⟨q0, q1, q2, q3, q4⟩
  · skip
    refine WC.reg ?_
    refine WL.v (Runs.fld fld27_0 rfl) rfl ?_
    refine WL.v (Runs.load1 Try.underlying3 rfl rfl (h5.ocell (i := 1) rfl rfl)) rfl ?_
    refine WL.v (Runs.boolT (c := false) (Runs.eql rfl rfl) (decide_eq_false q0)) rfl ?_
    refine WL.v (Runs.move rfl) rfl ?_
    refine WL.goff rfl rfl rfl rfl ?_
    refine WL.goff rfl rfl rfl rfl ?_
    refine WL.goff rfl rfl rfl rfl ?_
    refine WL.v (Runs.pick rfl rfl rfl) rfl ?_
    refine WL.v (Runs.move rfl) rfl ?_
    refine WL.goff rfl rfl rfl rfl ?_
    refine WL.goff rfl rfl rfl rfl ?_
    refine WL.goff rfl rfl rfl rfl ?_
    refine WL.v (Runs.pick rfl rfl rfl) rfl ?_
    refine WL.v (Runs.move rfl) rfl ?_
    refine WL.goff rfl rfl rfl rfl ?_
    refine WL.goff rfl rfl rfl rfl ?_
    refine WL.goff rfl rfl rfl rfl ?_
    refine WL.v (Runs.pick rfl rfl rfl) rfl ?_
    refine WL.v (Runs.move rfl) rfl ?_
    refine WL.goff rfl rfl rfl rfl ?_
    refine WL.goff rfl rfl rfl rfl ?_
    refine WL.v (Runs.pick rfl rfl rfl) rfl ?_
    refine WL.v (Runs.move rfl) rfl ?_
    refine WL.goff rfl rfl rfl rfl ?_
    refine WL.goff rfl rfl rfl rfl ?_
    refine WL.goff rfl rfl rfl rfl ?_
    refine WL.v (Runs.pick rfl rfl rfl) rfl ?_
    refine WL.v (Runs.assign rfl) rfl ?_
    refine WL.nil (WN.thn (WC.ret ?_))
    refine ret1 rfl rfl ⟨?_, (((h5.drop 0).drop 0).drop 0)⟩
    unfold asksM
    rw [decide_eq_false q0] <;> rfl
  · skip
    refine WC.reg ?_
    refine WL.v (Runs.fld fld27_0 rfl) rfl ?_
    refine WL.v (Runs.load1 Try.underlying3 rfl rfl (h5.ocell (i := 1) rfl rfl)) rfl ?_
    refine WL.v (Runs.boolT (c := true) (Runs.eql rfl rfl) (decide_eq_true q0)) rfl ?_
    refine WL.v (Runs.move rfl) rfl ?_
    refine WL.gon rfl rfl rfl ?_
    refine WL.v (Runs.fld fld27_1 rfl) rfl ?_
    refine WL.gon rfl rfl rfl ?_
    refine WL.v (Runs.load1 Try.underlying3 rfl rfl (h5.ocell (i := 1) rfl rfl)) rfl ?_
    refine WL.gon rfl rfl rfl ?_
    refine WL.v (Runs.boolT (c := false) (Runs.eql rfl rfl) (decide_eq_false q1)) rfl ?_
    refine WL.v (Runs.pick rfl rfl rfl) rfl ?_
    refine WL.v (Runs.move rfl) rfl ?_
    refine WL.goff rfl rfl rfl rfl ?_
    refine WL.goff rfl rfl rfl rfl ?_
    refine WL.goff rfl rfl rfl rfl ?_
    refine WL.v (Runs.pick rfl rfl rfl) rfl ?_
    refine WL.v (Runs.move rfl) rfl ?_
    refine WL.goff rfl rfl rfl rfl ?_
    refine WL.goff rfl rfl rfl rfl ?_
    refine WL.goff rfl rfl rfl rfl ?_
    refine WL.v (Runs.pick rfl rfl rfl) rfl ?_
    refine WL.v (Runs.move rfl) rfl ?_
    refine WL.goff rfl rfl rfl rfl ?_
    refine WL.goff rfl rfl rfl rfl ?_
    refine WL.v (Runs.pick rfl rfl rfl) rfl ?_
    refine WL.v (Runs.move rfl) rfl ?_
    refine WL.goff rfl rfl rfl rfl ?_
    refine WL.goff rfl rfl rfl rfl ?_
    refine WL.goff rfl rfl rfl rfl ?_
    refine WL.v (Runs.pick rfl rfl rfl) rfl ?_
    refine WL.v (Runs.assign rfl) rfl ?_
    refine WL.nil (WN.thn (WC.ret ?_))
    refine ret1 rfl rfl ⟨?_, (((h5.drop 0).drop 0).drop 0)⟩
    unfold asksM
    rw [decide_eq_true q0, decide_eq_false q1] <;> rfl
  · skip
    refine WC.reg ?_
    refine WL.v (Runs.fld fld27_0 rfl) rfl ?_
    refine WL.v (Runs.load1 Try.underlying3 rfl rfl (h5.ocell (i := 1) rfl rfl)) rfl ?_
    refine WL.v (Runs.boolT (c := true) (Runs.eql rfl rfl) (decide_eq_true q0)) rfl ?_
    refine WL.v (Runs.move rfl) rfl ?_
    refine WL.gon rfl rfl rfl ?_
    refine WL.v (Runs.fld fld27_1 rfl) rfl ?_
    refine WL.gon rfl rfl rfl ?_
    refine WL.v (Runs.load1 Try.underlying3 rfl rfl (h5.ocell (i := 1) rfl rfl)) rfl ?_
    refine WL.gon rfl rfl rfl ?_
    refine WL.v (Runs.boolT (c := true) (Runs.eql rfl rfl) (decide_eq_true q1)) rfl ?_
    refine WL.v (Runs.pick rfl rfl rfl) rfl ?_
    refine WL.v (Runs.move rfl) rfl ?_
    refine WL.gon rfl rfl rfl ?_
    refine WL.v (Runs.fld fld27_2 rfl) rfl ?_
    refine WL.gon rfl rfl rfl ?_
    refine WL.v (Runs.load1 Try.underlying3 rfl rfl (h5.ocell (i := 1) rfl rfl)) rfl ?_
    refine WL.gon rfl rfl rfl ?_
    refine WL.v (Runs.boolT (c := false) (Runs.geq rfl rfl) (decide_eq_false q2)) rfl ?_
    refine WL.v (Runs.pick rfl rfl rfl) rfl ?_
    refine WL.v (Runs.move rfl) rfl ?_
    refine WL.goff rfl rfl rfl rfl ?_
    refine WL.goff rfl rfl rfl rfl ?_
    refine WL.goff rfl rfl rfl rfl ?_
    refine WL.v (Runs.pick rfl rfl rfl) rfl ?_
    refine WL.v (Runs.move rfl) rfl ?_
    refine WL.goff rfl rfl rfl rfl ?_
    refine WL.goff rfl rfl rfl rfl ?_
    refine WL.v (Runs.pick rfl rfl rfl) rfl ?_
    refine WL.v (Runs.move rfl) rfl ?_
    refine WL.goff rfl rfl rfl rfl ?_
    refine WL.goff rfl rfl rfl rfl ?_
    refine WL.goff rfl rfl rfl rfl ?_
    refine WL.v (Runs.pick rfl rfl rfl) rfl ?_
    refine WL.v (Runs.assign rfl) rfl ?_
    refine WL.nil (WN.thn (WC.ret ?_))
    refine ret1 rfl rfl ⟨?_, (((h5.drop 0).drop 0).drop 0)⟩
    unfold asksM
    rw [decide_eq_true q0, decide_eq_true q1, decide_eq_false (show ¬ (0 ≤ m.to ∧ m.to ≤ 15) from by omega)] <;> rfl
  · skip
    refine WC.reg ?_
    refine WL.v (Runs.fld fld27_0 rfl) rfl ?_
    refine WL.v (Runs.load1 Try.underlying3 rfl rfl (h5.ocell (i := 1) rfl rfl)) rfl ?_
    refine WL.v (Runs.boolT (c := true) (Runs.eql rfl rfl) (decide_eq_true q0)) rfl ?_
    refine WL.v (Runs.move rfl) rfl ?_
    refine WL.gon rfl rfl rfl ?_
    refine WL.v (Runs.fld fld27_1 rfl) rfl ?_
    refine WL.gon rfl rfl rfl ?_
    refine WL.v (Runs.load1 Try.underlying3 rfl rfl (h5.ocell (i := 1) rfl rfl)) rfl ?_
    refine WL.gon rfl rfl rfl ?_
    refine WL.v (Runs.boolT (c := true) (Runs.eql rfl rfl) (decide_eq_true q1)) rfl ?_
    refine WL.v (Runs.pick rfl rfl rfl) rfl ?_
    refine WL.v (Runs.move rfl) rfl ?_
    refine WL.gon rfl rfl rfl ?_
    refine WL.v (Runs.fld fld27_2 rfl) rfl ?_
    refine WL.gon rfl rfl rfl ?_
    refine WL.v (Runs.load1 Try.underlying3 rfl rfl (h5.ocell (i := 1) rfl rfl)) rfl ?_
    refine WL.gon rfl rfl rfl ?_
    refine WL.v (Runs.boolT (c := true) (Runs.geq rfl rfl) (decide_eq_true q2)) rfl ?_
    refine WL.v (Runs.pick rfl rfl rfl) rfl ?_
    refine WL.v (Runs.move rfl) rfl ?_
    refine WL.gon rfl rfl rfl ?_
    refine WL.v (Runs.fld fld27_2 rfl) rfl ?_
    refine WL.gon rfl rfl rfl ?_
    refine WL.v (Runs.load1 Try.underlying3 rfl rfl (h5.ocell (i := 1) rfl rfl)) rfl ?_
    refine WL.gon rfl rfl rfl ?_
    refine WL.v (Runs.boolT (c := false) (Runs.leq rfl rfl) (decide_eq_false q3)) rfl ?_
    refine WL.v (Runs.pick rfl rfl rfl) rfl ?_
    refine WL.v (Runs.move rfl) rfl ?_
    refine WL.goff rfl rfl rfl rfl ?_
    refine WL.goff rfl rfl rfl rfl ?_
    refine WL.v (Runs.pick rfl rfl rfl) rfl ?_
    refine WL.v (Runs.move rfl) rfl ?_
    refine WL.goff rfl rfl rfl rfl ?_
    refine WL.goff rfl rfl rfl rfl ?_
    refine WL.goff rfl rfl rfl rfl ?_
    refine WL.v (Runs.pick rfl rfl rfl) rfl ?_
    refine WL.v (Runs.assign rfl) rfl ?_
    refine WL.nil (WN.thn (WC.ret ?_))
    refine ret1 rfl rfl ⟨?_, (((h5.drop 0).drop 0).drop 0)⟩
    unfold asksM
    rw [decide_eq_true q0, decide_eq_true q1, decide_eq_false (show ¬ (0 ≤ m.to ∧ m.to ≤ 15) from by omega)] <;> rfl
  · replace q4 : hasS z m = true := by simpa using q4
    refine WC.reg ?_
    refine WL.v (Runs.fld fld27_0 rfl) rfl ?_
    refine WL.v (Runs.load1 Try.underlying3 rfl rfl (h5.ocell (i := 1) rfl rfl)) rfl ?_
    refine WL.v (Runs.boolT (c := true) (Runs.eql rfl rfl) (decide_eq_true q0)) rfl ?_
    refine WL.v (Runs.move rfl) rfl ?_
    refine WL.gon rfl rfl rfl ?_
    refine WL.v (Runs.fld fld27_1 rfl) rfl ?_
    refine WL.gon rfl rfl rfl ?_
    refine WL.v (Runs.load1 Try.underlying3 rfl rfl (h5.ocell (i := 1) rfl rfl)) rfl ?_
    refine WL.gon rfl rfl rfl ?_
    refine WL.v (Runs.boolT (c := true) (Runs.eql rfl rfl) (decide_eq_true q1)) rfl ?_
    refine WL.v (Runs.pick rfl rfl rfl) rfl ?_
    refine WL.v (Runs.move rfl) rfl ?_
    refine WL.gon rfl rfl rfl ?_
    refine WL.v (Runs.fld fld27_2 rfl) rfl ?_
    refine WL.gon rfl rfl rfl ?_
    refine WL.v (Runs.load1 Try.underlying3 rfl rfl (h5.ocell (i := 1) rfl rfl)) rfl ?_
    refine WL.gon rfl rfl rfl ?_
    refine WL.v (Runs.boolT (c := true) (Runs.geq rfl rfl) (decide_eq_true q2)) rfl ?_
    refine WL.v (Runs.pick rfl rfl rfl) rfl ?_
    refine WL.v (Runs.move rfl) rfl ?_
    refine WL.gon rfl rfl rfl ?_
    refine WL.v (Runs.fld fld27_2 rfl) rfl ?_
    refine WL.gon rfl rfl rfl ?_
    refine WL.v (Runs.load1 Try.underlying3 rfl rfl (h5.ocell (i := 1) rfl rfl)) rfl ?_
    refine WL.gon rfl rfl rfl ?_
    refine WL.v (Runs.boolT (c := true) (Runs.leq rfl rfl) (decide_eq_true q3)) rfl ?_
    refine WL.v (Runs.pick rfl rfl rfl) rfl ?_
    refine WL.v (Runs.move rfl) rfl ?_
    refine WL.gon rfl rfl rfl ?_
    refine WL.v (Runs.boolT (c := true) (Runs.move rfl) q4) rfl ?_
    refine WL.gon rfl rfl rfl ?_
    refine WL.v (Runs.not rfl) rfl ?_
    refine WL.v (Runs.pick rfl rfl rfl) rfl ?_
    refine WL.v (Runs.move rfl) rfl ?_
    refine WL.goff rfl rfl rfl rfl ?_
    refine WL.goff rfl rfl rfl rfl ?_
    refine WL.goff rfl rfl rfl rfl ?_
    refine WL.v (Runs.pick rfl rfl rfl) rfl ?_
    refine WL.v (Runs.assign rfl) rfl ?_
    refine WL.nil (WN.thn (WC.ret ?_))
    refine ret1 rfl rfl ⟨?_, (((h5.drop 0).drop 0).drop 0)⟩
    unfold asksM
    rw [decide_eq_true q0, decide_eq_true q1, decide_eq_true (show 0 ≤ m.to ∧ m.to ≤ 15 from ⟨q2, q3⟩), show hasS z m = true from q4] <;> rfl
  · skip
    refine WC.reg ?_
    refine WL.v (Runs.fld fld27_0 rfl) rfl ?_
    refine WL.v (Runs.load1 Try.underlying3 rfl rfl (h5.ocell (i := 1) rfl rfl)) rfl ?_
    refine WL.v (Runs.boolT (c := true) (Runs.eql rfl rfl) (decide_eq_true q0)) rfl ?_
    refine WL.v (Runs.move rfl) rfl ?_
    refine WL.gon rfl rfl rfl ?_
    refine WL.v (Runs.fld fld27_1 rfl) rfl ?_
    refine WL.gon rfl rfl rfl ?_
    refine WL.v (Runs.load1 Try.underlying3 rfl rfl (h5.ocell (i := 1) rfl rfl)) rfl ?_
    refine WL.gon rfl rfl rfl ?_
    refine WL.v (Runs.boolT (c := true) (Runs.eql rfl rfl) (decide_eq_true q1)) rfl ?_
    refine WL.v (Runs.pick rfl rfl rfl) rfl ?_
    refine WL.v (Runs.move rfl) rfl ?_
    refine WL.gon rfl rfl rfl ?_
    refine WL.v (Runs.fld fld27_2 rfl) rfl ?_
    refine WL.gon rfl rfl rfl ?_
    refine WL.v (Runs.load1 Try.underlying3 rfl rfl (h5.ocell (i := 1) rfl rfl)) rfl ?_
    refine WL.gon rfl rfl rfl ?_
    refine WL.v (Runs.boolT (c := true) (Runs.geq rfl rfl) (decide_eq_true q2)) rfl ?_
    refine WL.v (Runs.pick rfl rfl rfl) rfl ?_
    refine WL.v (Runs.move rfl) rfl ?_
    refine WL.gon rfl rfl rfl ?_
    refine WL.v (Runs.fld fld27_2 rfl) rfl ?_
    refine WL.gon rfl rfl rfl ?_
    refine WL.v (Runs.load1 Try.underlying3 rfl rfl (h5.ocell (i := 1) rfl rfl)) rfl ?_
    refine WL.gon rfl rfl rfl ?_
    refine WL.v (Runs.boolT (c := true) (Runs.leq rfl rfl) (decide_eq_true q3)) rfl ?_
    refine WL.v (Runs.pick rfl rfl rfl) rfl ?_
    refine WL.v (Runs.move rfl) rfl ?_
    refine WL.gon rfl rfl rfl ?_
    refine WL.v (Runs.boolT (c := false) (Runs.move rfl) q4) rfl ?_
    refine WL.gon rfl rfl rfl ?_
    refine WL.v (Runs.not rfl) rfl ?_
    refine WL.v (Runs.pick rfl rfl rfl) rfl ?_
    refine WL.v (Runs.move rfl) rfl ?_
    refine WL.gon rfl rfl rfl ?_
    refine WL.v (Runs.loadAll h5 2 rfl Try.underlying25 rfl inf25 rfl rfl) rfl ?_
    refine WL.gon rfl rfl rfl ?_
    refine WL.v (Runs.loadAll h5 1 rfl Try.underlying27 rfl inf27 rfl rfl) rfl ?_
    refine WL.gon rfl rfl rfl ?_
    refine WL.call can41 rfl rfl (qup_c _ hz hR h5) ?_
    rintro _ w6 ⟨rfl, h6⟩
    refine ⟨_, rfl, ?_⟩
    refine WL.v (Runs.pick rfl rfl rfl) rfl ?_
    refine WL.v (Runs.assign rfl) rfl ?_
    refine WL.nil (WN.thn (WC.ret ?_))
    refine ret1 rfl rfl ⟨?_, (((h6.drop 0).drop 0).drop 0)⟩
    unfold asksM
    rw [decide_eq_true q0, decide_eq_true q1, decide_eq_true (show 0 ≤ m.to ∧ m.to ≤ 15 from ⟨q2, q3⟩), show hasS z m = false from q4] <;> rfl
end Rc
end Go.Proofs.Ytanlminnobonnaa
