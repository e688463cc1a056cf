/- The law RecOnce. -/
import Derived.Test.YthejglgnoingfaaProg
import Derived.KernelRfl
import Derived.Test.YthejglgnoingfaaMBaseAH
import Derived.Test.YthejglgnoingfaaME4
import Derived.Test.YthejglgnoingfaaME82
namespace Go.Proofs.Ythejglgnoingfaa
open Go Go.RowKit B
set_option linter.unusedVariables false
set_option linter.unusedSimpArgs false
namespace Rc
open Wir (numB listB rdN rdL rdEnd)


theorem kinds (x y st st' : Int) (h : st = st' → (x = 4 ∨ x = 2 ∨ x = 5) → y = 6 ∨ y = 0) : (¬ st = st') ∨ (st = st' ∧ ((x = 4 ∧ y = 6) ∨ (x = 4 ∧ y = 0) ∨ (x = 2 ∧ y = 6) ∨ (x = 2 ∧ y = 0) ∨ (x = 5 ∧ y = 6) ∨ (x = 5 ∧ y = 0) ∨ (x ≠ 4 ∧ x ≠ 2 ∧ x ≠ 5))) := by
  by_cases h1 : st = st'
  · right
    have := h h1
    refine ⟨h1, ?_⟩
    omega
  · exact .inl h1
set_option maxRecDepth 100000 in
set_option maxHeartbeats 32000000 in
theorem once_law {W : World} {F : Snap} {cs : List Res} (w : World) {A : Option Addr} {cap : Nat} {l : List R} (h : St W F cs w) (hR : RdS KR F A l) (hlm : l.length ≤ 9223372036854775807) : Calls Try.prog 6 #[.slice A l.length cap] w fun e w' => e = .returned (.bool true) ∧ St W F cs w'  := by
  refine enter (P := Try.prog) (args := [.slice A l.length cap]) Try.func6 rfl rfl rfl ?_
  have hleF := Le.refl F
  refine WC.seq (WC.reg ?_)
  refine WL.v (Runs.assign rfl) rfl ?_
  refine WL.nil (WN.thn (WC.seq (WC.seq ?_)))
  by_cases hs : smallL l 60
  · have hl1 : l.length ≤ 1000 := by have := hs.2; omega
    have hls := hs.ls
    have hml := fold_len l Z0
    refine WC.reg ?_
    refine WL.v (Runs.move rfl) rfl ?_
    refine WL.call can28 rfl rfl (small_c _ h hR hlm) ?_
    rintro _ w1 ⟨rfl, h1⟩
    refine ⟨_, rfl, ?_⟩
    refine WL.v (Runs.boolT (c := false) (Runs.not rfl) (by rw [decide_eq_true hs]; rfl)) rfl ?_
    refine WL.nil (WN.thn ?_)
    refine WC.condF rfl (rfl) ?_
    refine WC.skip (WN.thn (WC.seq (WC.reg ?_)))
    refine WL.v (Runs.move rfl) rfl ?_
    refine WL.call can29 rfl rfl (fold_c _ hl1 hls hR h1) ?_
    rintro _ w2 ⟨G15, AJ15, AS15, cj15, cS15, hG15, rfl, hZ15, h2⟩
    refine ⟨_, rfl, ?_⟩
    replace hleF := Le.trans hleF hG15
    replace hR := hR.mono hG15
    refine WL.v (Runs.move rfl) rfl ?_
    refine WL.v (Runs.extract rfl rfl) rfl ?_
    refine WL.v (Runs.extract rfl rfl) rfl ?_
    refine WL.alloc' rfl h2 inf40 ?_
    intro b3 w3 h3
    refine WL.storeAll h3 0 rfl rfl rfl inf40 rfl rfl rfl (Free.zero _) ?_
    intro  w4 h4
    try simp only [lz, ls, ez, es'] at h4
    refine WL.v (Runs.assign rfl) rfl ?_
    refine WL.nil (WN.thn (WC.seq (WC.seq (WC.reg ?_))))
    refine WL.v (Runs.move rfl) rfl ?_
    refine WL.v (Runs.boolT (c := false) (Runs.lss rfl rfl) (decide_eq_false (by omega))) rfl ?_
    refine WL.v (Runs.move rfl) rfl ?_
    refine WL.gon rfl rfl rfl ?_
    refine WL.v (Runs.move rfl) rfl ?_
    refine WL.gon rfl rfl rfl ?_
    refine WL.v (Runs.move rfl) rfl ?_
    refine WL.gon rfl rfl rfl ?_
    refine WL.v (Runs.llen Try.underlying65 rfl rfl) rfl ?_
    refine WL.gon rfl rfl rfl ?_
    refine WL.v (Runs.boolT (c := false) (Runs.gtr rfl rfl) (decide_eq_false (by omega))) rfl ?_
    refine WL.v (Runs.pick rfl rfl rfl) rfl ?_
    refine WL.nil (WN.thn ?_)
    refine WC.condF rfl (rfl) ?_
    refine WC.skip (WN.thn (WC.seq (WC.seq (WC.reg ?_))))
    refine WL.v (Runs.assign rfl) rfl ?_
    refine WL.nil (WN.thn (WC.block ?_))
    refine WC.loop (σ := Nat) (fun q_ => [(0, .slice A l.length cap), (4, Vi ((foldM Z0 l).2 : Int)), (5, .int .i64 (q_ : Int))]) (fun q_ w => q_ ≤ (foldM Z0 l).2 ∧ St W G15 ([(b3, .cells #[.slice AJ15 (foldM Z0 l).1.js.length cj15, .slice AS15 (foldM Z0 l).1.ss.length cS15, .bool (foldM Z0 l).1.dr] 40 (0, 0))] :: cs) w) (fun q_ => (foldM Z0 l).2 - q_) (0) (by repeat (first | exact trivial | refine ⟨rfl, ?_⟩)) (⟨Nat.zero_le _, h4⟩) ?_
    rintro i w5 ⟨hi, hL⟩
    try dsimp only at hi hL
    refine WC.sub (s := [(0, .slice A l.length cap), (4, Vi ((foldM Z0 l).2 : Int)), (5, .int .i64 (i : Int))]) (by repeat (first | exact trivial | refine ⟨rfl, ?_⟩)) ?_
    refine WC.seq (WC.seq (WC.reg ?_))
    refine WL.v (Runs.move rfl) rfl ?_
    refine WL.v (Runs.move rfl) rfl ?_
    refine WL.v (Runs.lss rfl rfl) rfl ?_
    refine WL.nil (WN.thn ?_)
    refine WC.cond rfl (fun c6 => ?_) (fun c6 => ?_)
    · try simp only [dt, df, nt, nf, ba, il, ie] at c6
      first
      | (exfalso; omega)
      | skip
        refine WC.skip (WN.thn (WC.seq (WC.block (WC.seq (WC.reg ?_)))))
        refine WL.v (Runs.assign rfl) rfl ?_
        refine WL.nil (WN.thn (WC.block ?_))
        refine WC.loop (σ := Nat) (fun q_ => [(0, .slice A l.length cap), (4, Vi ((foldM Z0 l).2 : Int)), (5, .int .i64 (i : Int)), (6, .int .i64 (q_ : Int))]) (fun q_ w => q_ ≤ i ∧ St W G15 ([(b3, .cells #[.slice AJ15 (foldM Z0 l).1.js.length cj15, .slice AS15 (foldM Z0 l).1.ss.length cS15, .bool (foldM Z0 l).1.dr] 40 (0, 0))] :: cs) w) (fun q_ => i - q_) (0) (by repeat (first | exact trivial | refine ⟨rfl, ?_⟩)) (⟨Nat.zero_le _, hL⟩) ?_
        rintro k w7 ⟨hk, hL⟩
        try dsimp only at hk hL
        refine WC.sub (s := [(0, .slice A l.length cap), (4, Vi ((foldM Z0 l).2 : Int)), (5, .int .i64 (i : Int)), (6, .int .i64 (k : Int))]) (by repeat (first | exact trivial | refine ⟨rfl, ?_⟩)) ?_
        refine WC.seq (WC.seq (WC.reg ?_))
        refine WL.v (Runs.move rfl) rfl ?_
        refine WL.v (Runs.move rfl) rfl ?_
        refine WL.v (Runs.lss rfl rfl) rfl ?_
        refine WL.nil (WN.thn ?_)
        refine WC.cond rfl (fun c8 => ?_) (fun c8 => ?_)
        · try simp only [dt, df, nt, nf, ba, il, ie] at c8
          first
          | (exfalso; omega)
          | skip
            refine WC.skip (WN.thn (WC.seq (WC.block (WC.seq ?_))))
            have hk2 : k < l.length := by omega
            obtain ⟨ad, c, rfl, ⟨A1, cap1, rfl, hps⟩, hcell⟩ := hR.atD R0 hk2
            refine WC.reg ?_
            refine WL.v (Runs.move rfl) rfl ?_
            refine WL.v (Runs.move rfl) rfl ?_
            refine WL.v (Runs.lidxK Try.underlying65 inf24 rfl rfl (n := k) rfl hk2) rfl ?_
            refine WL.v (Runs.loadKF hL hcell Try.underlying24 rfl inf24 rfl rfl) rfl ?_
            refine WL.alloc' rfl hL inf24 ?_
            intro b7 w9 h9
            refine WL.storeAll h9 0 rfl rfl rfl inf24 rfl rfl rfl (Free.zero _) ?_
            intro  w10 h10
            try simp only [lz, ls, ez, es'] at h10
            refine WL.nil (WN.thn (WC.seq ?_))
            have hi2 : i < l.length := by omega
            obtain ⟨ad2, c2, hea2, ⟨A2, cap2, rfl, hps2⟩, hcell2⟩ := hR.atD R0 hi2
            obtain rfl := Option.some.inj hea2
            refine WC.reg ?_
            refine WL.v (Runs.move rfl) rfl ?_
            refine WL.v (Runs.move rfl) rfl ?_
            refine WL.v (Runs.lidxK Try.underlying65 inf24 rfl rfl (n := i) rfl hi2) rfl ?_
            refine WL.v (Runs.loadKF h10 hcell2 Try.underlying24 rfl inf24 rfl rfl) rfl ?_
            refine WL.alloc' rfl h10 inf24 ?_
            intro b8 w11 h11
            refine WL.storeAll h11 0 rfl rfl rfl inf24 rfl rfl rfl (Free.zero _) ?_
            intro  w12 h12
            try simp only [lz, ls, ez, es'] at h12
            refine WL.nil (WN.thn (WC.seq (WC.seq ?_)))
            rcases two ((l.getD k R0).jb = (l.getD i R0).jb) ((l.getD k R0).ep = (l.getD i R0).ep) with q0 | ⟨q0, q1⟩ | ⟨q0, q1⟩
            · skip
              refine WC.reg ?_
              refine WL.v (Runs.fld fld24_1 rfl) rfl ?_
              refine WL.v (Runs.load1 Try.underlying3 rfl rfl (h12.ocell (i := 1) rfl rfl)) rfl ?_
              refine WL.v (Runs.fld fld24_1 rfl) rfl ?_
              refine WL.v (Runs.load1 Try.underlying3 rfl rfl (h12.ocell (i := 0) rfl rfl)) rfl ?_
              refine WL.v (Runs.boolT (c := true) (Runs.neq rfl rfl) (by rw [decide_eq_false q0]; rfl)) rfl ?_
              refine WL.v (Runs.move rfl) rfl ?_
              refine WL.goff rfl rfl rfl rfl ?_
              refine WL.goff rfl rfl rfl rfl ?_
              refine WL.goff rfl rfl rfl rfl ?_
              refine WL.goff rfl rfl rfl rfl ?_
              refine WL.goff rfl rfl rfl rfl ?_
              refine WL.v (Runs.pick rfl rfl rfl) rfl ?_
              refine WL.nil (WN.thn ?_)
              refine WC.condT rfl (rfl) ?_
              refine WC.exit (WX.thn (WX.hit (WN.thn (WC.reg ?_))))
              refine WL.v (Runs.move rfl) rfl ?_
              refine WL.v (Runs.addn rfl rfl (by omega)) rfl ?_
              refine WL.v (Runs.assign rfl) rfl ?_
              refine WL.nil ?_
              exact WN.again (k + 1) (by omega) ⟨rfl, rfl, rfl, rfl, trivial⟩ ⟨by omega, ((h12.drop 1).drop 0)⟩
            · skip
              refine WC.reg ?_
              refine WL.v (Runs.fld fld24_1 rfl) rfl ?_
              refine WL.v (Runs.load1 Try.underlying3 rfl rfl (h12.ocell (i := 1) rfl rfl)) rfl ?_
              refine WL.v (Runs.fld fld24_1 rfl) rfl ?_
              refine WL.v (Runs.load1 Try.underlying3 rfl rfl (h12.ocell (i := 0) rfl rfl)) rfl ?_
              refine WL.v (Runs.boolT (c := false) (Runs.neq rfl rfl) (by rw [decide_eq_true q0]; rfl)) rfl ?_
              refine WL.v (Runs.move rfl) rfl ?_
              refine WL.gon rfl rfl rfl ?_
              refine WL.v (Runs.fld fld24_2 rfl) rfl ?_
              refine WL.gon rfl rfl rfl ?_
              refine WL.v (Runs.load1 Try.underlying3 rfl rfl (h12.ocell (i := 1) rfl rfl)) rfl ?_
              refine WL.gon rfl rfl rfl ?_
              refine WL.v (Runs.fld fld24_2 rfl) rfl ?_
              refine WL.gon rfl rfl rfl ?_
              refine WL.v (Runs.load1 Try.underlying3 rfl rfl (h12.ocell (i := 0) rfl rfl)) rfl ?_
              refine WL.gon rfl rfl rfl ?_
              refine WL.v (Runs.boolT (c := true) (Runs.neq rfl rfl) (by rw [decide_eq_false q1]; rfl)) rfl ?_
              refine WL.v (Runs.pick rfl rfl rfl) rfl ?_
              refine WL.nil (WN.thn ?_)
              refine WC.condT rfl (rfl) ?_
              refine WC.exit (WX.thn (WX.hit (WN.thn (WC.reg ?_))))
              refine WL.v (Runs.move rfl) rfl ?_
              refine WL.v (Runs.addn rfl rfl (by omega)) rfl ?_
              refine WL.v (Runs.assign rfl) rfl ?_
              refine WL.nil ?_
              exact WN.again (k + 1) (by omega) ⟨rfl, rfl, rfl, rfl, trivial⟩ ⟨by omega, ((h12.drop 1).drop 0)⟩
            · obtain ⟨n1, n2, n3⟩ := once_ok (l := l) (i := i) (k := k) (by omega) (by omega) q0 q1
              refine WC.reg ?_
              refine WL.v (Runs.fld fld24_1 rfl) rfl ?_
              refine WL.v (Runs.load1 Try.underlying3 rfl rfl (h12.ocell (i := 1) rfl rfl)) rfl ?_
              refine WL.v (Runs.fld fld24_1 rfl) rfl ?_
              refine WL.v (Runs.load1 Try.underlying3 rfl rfl (h12.ocell (i := 0) rfl rfl)) rfl ?_
              refine WL.v (Runs.boolT (c := false) (Runs.neq rfl rfl) (by rw [decide_eq_true q0]; rfl)) rfl ?_
              refine WL.v (Runs.move rfl) rfl ?_
              refine WL.gon rfl rfl rfl ?_
              refine WL.v (Runs.fld fld24_2 rfl) rfl ?_
              refine WL.gon rfl rfl rfl ?_
              refine WL.v (Runs.load1 Try.underlying3 rfl rfl (h12.ocell (i := 1) rfl rfl)) rfl ?_
              refine WL.gon rfl rfl rfl ?_
              refine WL.v (Runs.fld fld24_2 rfl) rfl ?_
              refine WL.gon rfl rfl rfl ?_
              refine WL.v (Runs.load1 Try.underlying3 rfl rfl (h12.ocell (i := 0) rfl rfl)) rfl ?_
              refine WL.gon rfl rfl rfl ?_
              refine WL.v (Runs.boolT (c := false) (Runs.neq rfl rfl) (by rw [decide_eq_true q1]; rfl)) rfl ?_
              refine WL.v (Runs.pick rfl rfl rfl) rfl ?_
              refine WL.nil (WN.thn ?_)
              refine WC.condF rfl (rfl) ?_
              refine WC.skip (WN.thn (WC.seq (WC.seq ?_)))
              by_cases g0 : (l.getD k R0).kd = (l.getD i R0).kd
              · skip
                refine WC.reg ?_
                refine WL.v (Runs.fld fld24_0 rfl) rfl ?_
                refine WL.v (Runs.load1 Try.underlying3 rfl rfl (h12.ocell (i := 1) rfl rfl)) rfl ?_
                refine WL.v (Runs.boolT (c := false) (Runs.eql rfl rfl) (decide_eq_false (n1.1))) rfl ?_
                refine WL.v (Runs.move rfl) rfl ?_
                refine WL.gon rfl rfl rfl ?_
                refine WL.v (Runs.fld fld24_0 rfl) rfl ?_
                refine WL.gon rfl rfl rfl ?_
                refine WL.v (Runs.load1 Try.underlying3 rfl rfl (h12.ocell (i := 1) rfl rfl)) rfl ?_
                refine WL.gon rfl rfl rfl ?_
                refine WL.v (Runs.boolT (c := false) (Runs.eql rfl rfl) (decide_eq_false (n1.2.1))) rfl ?_
                refine WL.v (Runs.pick rfl rfl rfl) rfl ?_
                refine WL.v (Runs.move rfl) rfl ?_
                refine WL.gon rfl rfl rfl ?_
                refine WL.v (Runs.fld fld24_0 rfl) rfl ?_
                refine WL.gon rfl rfl rfl ?_
                refine WL.v (Runs.load1 Try.underlying3 rfl rfl (h12.ocell (i := 0) rfl rfl)) rfl ?_
                refine WL.gon rfl rfl rfl ?_
                refine WL.v (Runs.boolT (c := false) (Runs.eql rfl rfl) (decide_eq_false (n1.2.2))) rfl ?_
                refine WL.v (Runs.pick rfl rfl rfl) rfl ?_
                refine WL.v (Runs.move rfl) rfl ?_
                refine WL.gon rfl rfl rfl ?_
                refine WL.v (Runs.fld fld24_0 rfl) rfl ?_
                refine WL.gon rfl rfl rfl ?_
                refine WL.v (Runs.load1 Try.underlying3 rfl rfl (h12.ocell (i := 1) rfl rfl)) rfl ?_
                refine WL.gon rfl rfl rfl ?_
                refine WL.v (Runs.fld fld24_0 rfl) rfl ?_
                refine WL.gon rfl rfl rfl ?_
                refine WL.v (Runs.load1 Try.underlying3 rfl rfl (h12.ocell (i := 0) rfl rfl)) rfl ?_
                refine WL.gon rfl rfl rfl ?_
                refine WL.v (Runs.boolT (c := true) (Runs.eql rfl rfl) (decide_eq_true (g0))) rfl ?_
                refine WL.gon rfl rfl rfl ?_
                refine WL.v (Runs.move rfl) rfl ?_
                refine WL.gon rfl rfl rfl ?_
                refine WL.v (Runs.fld fld24_0 rfl) rfl ?_
                refine WL.gon rfl rfl rfl ?_
                refine WL.v (Runs.load1 Try.underlying3 rfl rfl (h12.ocell (i := 1) rfl rfl)) rfl ?_
                refine WL.gon rfl rfl rfl ?_
                refine WL.v (Runs.boolT (c := false) (Runs.eql rfl rfl) (decide_eq_false ((n2 g0).1))) rfl ?_
                refine WL.gon rfl rfl rfl ?_
                refine WL.v (Runs.move rfl) rfl ?_
                refine WL.gon rfl rfl rfl ?_
                refine WL.v (Runs.fld fld24_3 rfl) rfl ?_
                refine WL.gon rfl rfl rfl ?_
                refine WL.v (Runs.load1 Try.underlying3 rfl rfl (h12.ocell (i := 1) rfl rfl)) rfl ?_
                refine WL.gon rfl rfl rfl ?_
                refine WL.v (Runs.fld fld24_3 rfl) rfl ?_
                refine WL.gon rfl rfl rfl ?_
                refine WL.v (Runs.load1 Try.underlying3 rfl rfl (h12.ocell (i := 0) rfl rfl)) rfl ?_
                refine WL.gon rfl rfl rfl ?_
                refine WL.v (Runs.boolT (c := false) (Runs.eql rfl rfl) (decide_eq_false ((n2 g0).2))) rfl ?_
                refine WL.gon rfl rfl rfl ?_
                refine WL.v (Runs.pick rfl rfl rfl) rfl ?_
                refine WL.gon rfl rfl rfl ?_
                refine WL.v (Runs.pick rfl rfl rfl) rfl ?_
                refine WL.v (Runs.pick rfl rfl rfl) rfl ?_
                refine WL.nil (WN.thn ?_)
                refine WC.condF rfl (rfl) ?_
                refine WC.skip (WN.thn (WC.seq ?_))
                rcases kinds (l.getD k R0).kd (l.getD i R0).kd (l.getD k R0).st (l.getD i R0).st n3 with g1 | ⟨g1, ⟨g3, g2⟩ | ⟨g3, g2⟩ | ⟨g3, g2⟩ | ⟨g3, g2⟩ | ⟨g3, g2⟩ | ⟨g3, g2⟩ | ⟨g2a, g2b, g2c⟩⟩
                · skip
                  refine WC.reg ?_
                  refine WL.v (Runs.fld fld24_3 rfl) rfl ?_
                  refine WL.v (Runs.load1 Try.underlying3 rfl rfl (h12.ocell (i := 1) rfl rfl)) rfl ?_
                  refine WL.v (Runs.fld fld24_3 rfl) rfl ?_
                  refine WL.v (Runs.load1 Try.underlying3 rfl rfl (h12.ocell (i := 0) rfl rfl)) rfl ?_
                  refine WL.v (Runs.boolT (c := false) (Runs.eql rfl rfl) (decide_eq_false (g1))) rfl ?_
                  refine WL.v (Runs.move rfl) rfl ?_
                  refine WL.goff rfl rfl rfl rfl ?_
                  refine WL.goff rfl rfl rfl rfl ?_
                  refine WL.goff rfl rfl rfl rfl ?_
                  refine WL.goff rfl rfl rfl rfl ?_
                  refine WL.goffU rfl rfl rfl ?_
                  refine WL.goffU rfl rfl rfl ?_
                  refine WL.goffU rfl rfl rfl ?_
                  refine WL.goff rfl rfl rfl rfl ?_
                  refine WL.goff rfl rfl rfl rfl ?_
                  refine WL.goffU rfl rfl rfl ?_
                  refine WL.goffU rfl rfl rfl ?_
                  refine WL.goffU rfl rfl rfl ?_
                  refine WL.goff rfl rfl rfl rfl ?_
                  refine WL.v (Runs.pick rfl rfl rfl) rfl ?_
                  refine WL.v (Runs.move rfl) rfl ?_
                  refine WL.goff rfl rfl rfl rfl ?_
                  refine WL.goff rfl rfl rfl rfl ?_
                  refine WL.goff rfl rfl rfl rfl ?_
                  refine WL.v (Runs.pick rfl rfl rfl) rfl ?_
                  refine WL.v (Runs.move rfl) rfl ?_
                  refine WL.goff rfl rfl rfl rfl ?_
                  refine WL.goff rfl rfl rfl rfl ?_
                  refine WL.goff rfl rfl rfl rfl ?_
                  refine WL.v (Runs.pick rfl rfl rfl) rfl ?_
                  refine WL.nil (WN.thn ?_)
                  refine WC.condF rfl (rfl) ?_
                  refine WC.skip (WN.blk (WN.thn (WC.reg ?_)))
                  refine WL.v (Runs.move rfl) rfl ?_
                  refine WL.v (Runs.addn rfl rfl (by omega)) rfl ?_
                  refine WL.v (Runs.assign rfl) rfl ?_
                  refine WL.nil ?_
                  exact WN.again (k + 1) (by omega) ⟨rfl, rfl, rfl, rfl, trivial⟩ ⟨by omega, ((h12.drop 1).drop 0)⟩
                · skip
                  refine WC.reg ?_
                  refine WL.v (Runs.fld fld24_3 rfl) rfl ?_
                  refine WL.v (Runs.load1 Try.underlying3 rfl rfl (h12.ocell (i := 1) rfl rfl)) rfl ?_
                  refine WL.v (Runs.fld fld24_3 rfl) rfl ?_
                  refine WL.v (Runs.load1 Try.underlying3 rfl rfl (h12.ocell (i := 0) rfl rfl)) rfl ?_
                  refine WL.v (Runs.boolT (c := true) (Runs.eql rfl rfl) (decide_eq_true (by omega))) rfl ?_
                  refine WL.v (Runs.move rfl) rfl ?_
                  refine WL.gon rfl rfl rfl ?_
                  refine WL.v (Runs.fld fld24_0 rfl) rfl ?_
                  refine WL.gon rfl rfl rfl ?_
                  refine WL.v (Runs.load1 Try.underlying3 rfl rfl (h12.ocell (i := 1) rfl rfl)) rfl ?_
                  refine WL.gon rfl rfl rfl ?_
                  refine WL.v (Runs.boolT (c := true) (Runs.eql rfl rfl) (decide_eq_true (by omega))) rfl ?_
                  refine WL.gon rfl rfl rfl ?_
                  refine WL.v (Runs.move rfl) rfl ?_
                  refine WL.goff rfl rfl rfl rfl ?_
                  refine WL.goff rfl rfl rfl rfl ?_
                  refine WL.goff rfl rfl rfl rfl ?_
                  refine WL.gon rfl rfl rfl ?_
                  refine WL.v (Runs.pick rfl rfl rfl) rfl ?_
                  refine WL.gon rfl rfl rfl ?_
                  refine WL.v (Runs.move rfl) rfl ?_
                  refine WL.goff rfl rfl rfl rfl ?_
                  refine WL.goff rfl rfl rfl rfl ?_
                  refine WL.goff rfl rfl rfl rfl ?_
                  refine WL.gon rfl rfl rfl ?_
                  refine WL.v (Runs.pick rfl rfl rfl) rfl ?_
                  refine WL.v (Runs.pick rfl rfl rfl) rfl ?_
                  refine WL.v (Runs.move rfl) rfl ?_
                  refine WL.gon rfl rfl rfl ?_
                  refine WL.v (Runs.fld fld24_0 rfl) rfl ?_
                  refine WL.gon rfl rfl rfl ?_
                  refine WL.v (Runs.load1 Try.underlying3 rfl rfl (h12.ocell (i := 0) rfl rfl)) rfl ?_
                  refine WL.gon rfl rfl rfl ?_
                  refine WL.v (Runs.boolT (c := false) (Runs.neq rfl rfl) (by rw [decide_eq_true g2]; rfl)) rfl ?_
                  refine WL.v (Runs.pick rfl rfl rfl) rfl ?_
                  refine WL.v (Runs.move rfl) rfl ?_
                  refine WL.goff rfl rfl rfl rfl ?_
                  refine WL.goff rfl rfl rfl rfl ?_
                  refine WL.goff rfl rfl rfl rfl ?_
                  refine WL.v (Runs.pick rfl rfl rfl) rfl ?_
                  refine WL.nil (WN.thn ?_)
                  refine WC.condF rfl (rfl) ?_
                  refine WC.skip (WN.blk (WN.thn (WC.reg ?_)))
                  refine WL.v (Runs.move rfl) rfl ?_
                  refine WL.v (Runs.addn rfl rfl (by omega)) rfl ?_
                  refine WL.v (Runs.assign rfl) rfl ?_
                  refine WL.nil ?_
                  exact WN.again (k + 1) (by omega) ⟨rfl, rfl, rfl, rfl, trivial⟩ ⟨by omega, ((h12.drop 1).drop 0)⟩
                · skip
                  refine WC.reg ?_
                  refine WL.v (Runs.fld fld24_3 rfl) rfl ?_
                  refine WL.v (Runs.load1 Try.underlying3 rfl rfl (h12.ocell (i := 1) rfl rfl)) rfl ?_
                  refine WL.v (Runs.fld fld24_3 rfl) rfl ?_
                  refine WL.v (Runs.load1 Try.underlying3 rfl rfl (h12.ocell (i := 0) rfl rfl)) rfl ?_
                  refine WL.v (Runs.boolT (c := true) (Runs.eql rfl rfl) (decide_eq_true (by omega))) rfl ?_
                  refine WL.v (Runs.move rfl) rfl ?_
                  refine WL.gon rfl rfl rfl ?_
                  refine WL.v (Runs.fld fld24_0 rfl) rfl ?_
                  refine WL.gon rfl rfl rfl ?_
                  refine WL.v (Runs.load1 Try.underlying3 rfl rfl (h12.ocell (i := 1) rfl rfl)) rfl ?_
                  refine WL.gon rfl rfl rfl ?_
                  refine WL.v (Runs.boolT (c := true) (Runs.eql rfl rfl) (decide_eq_true (by omega))) rfl ?_
                  refine WL.gon rfl rfl rfl ?_
                  refine WL.v (Runs.move rfl) rfl ?_
                  refine WL.goff rfl rfl rfl rfl ?_
                  refine WL.goff rfl rfl rfl rfl ?_
                  refine WL.goff rfl rfl rfl rfl ?_
                  refine WL.gon rfl rfl rfl ?_
                  refine WL.v (Runs.pick rfl rfl rfl) rfl ?_
                  refine WL.gon rfl rfl rfl ?_
                  refine WL.v (Runs.move rfl) rfl ?_
                  refine WL.goff rfl rfl rfl rfl ?_
                  refine WL.goff rfl rfl rfl rfl ?_
                  refine WL.goff rfl rfl rfl rfl ?_
                  refine WL.gon rfl rfl rfl ?_
                  refine WL.v (Runs.pick rfl rfl rfl) rfl ?_
                  refine WL.v (Runs.pick rfl rfl rfl) rfl ?_
                  refine WL.v (Runs.move rfl) rfl ?_
                  refine WL.gon rfl rfl rfl ?_
                  refine WL.v (Runs.fld fld24_0 rfl) rfl ?_
                  refine WL.gon rfl rfl rfl ?_
                  refine WL.v (Runs.load1 Try.underlying3 rfl rfl (h12.ocell (i := 0) rfl rfl)) rfl ?_
                  refine WL.gon rfl rfl rfl ?_
                  refine WL.v (Runs.boolT (c := true) (Runs.neq rfl rfl) (by rw [decide_eq_false (by omega)]; rfl)) rfl ?_
                  refine WL.v (Runs.pick rfl rfl rfl) rfl ?_
                  refine WL.v (Runs.move rfl) rfl ?_
                  refine WL.gon rfl rfl rfl ?_
                  refine WL.v (Runs.fld fld24_0 rfl) rfl ?_
                  refine WL.gon rfl rfl rfl ?_
                  refine WL.v (Runs.load1 Try.underlying3 rfl rfl (h12.ocell (i := 0) rfl rfl)) rfl ?_
                  refine WL.gon rfl rfl rfl ?_
                  refine WL.v (Runs.boolT (c := false) (Runs.neq rfl rfl) (by rw [decide_eq_true g2]; rfl)) rfl ?_
                  refine WL.v (Runs.pick rfl rfl rfl) rfl ?_
                  refine WL.nil (WN.thn ?_)
                  refine WC.condF rfl (rfl) ?_
                  refine WC.skip (WN.blk (WN.thn (WC.reg ?_)))
                  refine WL.v (Runs.move rfl) rfl ?_
                  refine WL.v (Runs.addn rfl rfl (by omega)) rfl ?_
                  refine WL.v (Runs.assign rfl) rfl ?_
                  refine WL.nil ?_
                  exact WN.again (k + 1) (by omega) ⟨rfl, rfl, rfl, rfl, trivial⟩ ⟨by omega, ((h12.drop 1).drop 0)⟩
                · skip
                  refine WC.reg ?_
                  refine WL.v (Runs.fld fld24_3 rfl) rfl ?_
                  refine WL.v (Runs.load1 Try.underlying3 rfl rfl (h12.ocell (i := 1) rfl rfl)) rfl ?_
                  refine WL.v (Runs.fld fld24_3 rfl) rfl ?_
                  refine WL.v (Runs.load1 Try.underlying3 rfl rfl (h12.ocell (i := 0) rfl rfl)) rfl ?_
                  refine WL.v (Runs.boolT (c := true) (Runs.eql rfl rfl) (decide_eq_true (by omega))) rfl ?_
                  refine WL.v (Runs.move rfl) rfl ?_
                  refine WL.gon rfl rfl rfl ?_
                  refine WL.v (Runs.fld fld24_0 rfl) rfl ?_
                  refine WL.gon rfl rfl rfl ?_
                  refine WL.v (Runs.load1 Try.underlying3 rfl rfl (h12.ocell (i := 1) rfl rfl)) rfl ?_
                  refine WL.gon rfl rfl rfl ?_
                  refine WL.v (Runs.boolT (c := false) (Runs.eql rfl rfl) (decide_eq_false (by omega))) rfl ?_
                  refine WL.gon rfl rfl rfl ?_
                  refine WL.v (Runs.move rfl) rfl ?_
                  refine WL.gon rfl rfl rfl ?_
                  refine WL.v (Runs.fld fld24_0 rfl) rfl ?_
                  refine WL.gon rfl rfl rfl ?_
                  refine WL.v (Runs.load1 Try.underlying3 rfl rfl (h12.ocell (i := 1) rfl rfl)) rfl ?_
                  refine WL.gon rfl rfl rfl ?_
                  refine WL.v (Runs.boolT (c := true) (Runs.eql rfl rfl) (decide_eq_true (by omega))) rfl ?_
                  refine WL.gon rfl rfl rfl ?_
                  refine WL.v (Runs.pick rfl rfl rfl) rfl ?_
                  refine WL.gon rfl rfl rfl ?_
                  refine WL.v (Runs.move rfl) rfl ?_
                  refine WL.goff rfl rfl rfl rfl ?_
                  refine WL.goff rfl rfl rfl rfl ?_
                  refine WL.goff rfl rfl rfl rfl ?_
                  refine WL.gon rfl rfl rfl ?_
                  refine WL.v (Runs.pick rfl rfl rfl) rfl ?_
                  refine WL.v (Runs.pick rfl rfl rfl) rfl ?_
                  refine WL.v (Runs.move rfl) rfl ?_
                  refine WL.gon rfl rfl rfl ?_
                  refine WL.v (Runs.fld fld24_0 rfl) rfl ?_
                  refine WL.gon rfl rfl rfl ?_
                  refine WL.v (Runs.load1 Try.underlying3 rfl rfl (h12.ocell (i := 0) rfl rfl)) rfl ?_
                  refine WL.gon rfl rfl rfl ?_
                  refine WL.v (Runs.boolT (c := false) (Runs.neq rfl rfl) (by rw [decide_eq_true g2]; rfl)) rfl ?_
                  refine WL.v (Runs.pick rfl rfl rfl) rfl ?_
                  refine WL.v (Runs.move rfl) rfl ?_
                  refine WL.goff rfl rfl rfl rfl ?_
                  refine WL.goff rfl rfl rfl rfl ?_
                  refine WL.goff rfl rfl rfl rfl ?_
                  refine WL.v (Runs.pick rfl rfl rfl) rfl ?_
                  refine WL.nil (WN.thn ?_)
                  refine WC.condF rfl (rfl) ?_
                  refine WC.skip (WN.blk (WN.thn (WC.reg ?_)))
                  refine WL.v (Runs.move rfl) rfl ?_
                  refine WL.v (Runs.addn rfl rfl (by omega)) rfl ?_
                  refine WL.v (Runs.assign rfl) rfl ?_
                  refine WL.nil ?_
                  exact WN.again (k + 1) (by omega) ⟨rfl, rfl, rfl, rfl, trivial⟩ ⟨by omega, ((h12.drop 1).drop 0)⟩
                · skip
                  refine WC.reg ?_
                  refine WL.v (Runs.fld fld24_3 rfl) rfl ?_
                  refine WL.v (Runs.load1 Try.underlying3 rfl rfl (h12.ocell (i := 1) rfl rfl)) rfl ?_
                  refine WL.v (Runs.fld fld24_3 rfl) rfl ?_
                  refine WL.v (Runs.load1 Try.underlying3 rfl rfl (h12.ocell (i := 0) rfl rfl)) rfl ?_
                  refine WL.v (Runs.boolT (c := true) (Runs.eql rfl rfl) (decide_eq_true (by omega))) rfl ?_
                  refine WL.v (Runs.move rfl) rfl ?_
                  refine WL.gon rfl rfl rfl ?_
                  refine WL.v (Runs.fld fld24_0 rfl) rfl ?_
                  refine WL.gon rfl rfl rfl ?_
                  refine WL.v (Runs.load1 Try.underlying3 rfl rfl (h12.ocell (i := 1) rfl rfl)) rfl ?_
                  refine WL.gon rfl rfl rfl ?_
                  refine WL.v (Runs.boolT (c := false) (Runs.eql rfl rfl) (decide_eq_false (by omega))) rfl ?_
                  refine WL.gon rfl rfl rfl ?_
                  refine WL.v (Runs.move rfl) rfl ?_
                  refine WL.gon rfl rfl rfl ?_
                  refine WL.v (Runs.fld fld24_0 rfl) rfl ?_
                  refine WL.gon rfl rfl rfl ?_
                  refine WL.v (Runs.load1 Try.underlying3 rfl rfl (h12.ocell (i := 1) rfl rfl)) rfl ?_
                  refine WL.gon rfl rfl rfl ?_
                  refine WL.v (Runs.boolT (c := true) (Runs.eql rfl rfl) (decide_eq_true (by omega))) rfl ?_
                  refine WL.gon rfl rfl rfl ?_
                  refine WL.v (Runs.pick rfl rfl rfl) rfl ?_
                  refine WL.gon rfl rfl rfl ?_
                  refine WL.v (Runs.move rfl) rfl ?_
                  refine WL.goff rfl rfl rfl rfl ?_
                  refine WL.goff rfl rfl rfl rfl ?_
                  refine WL.goff rfl rfl rfl rfl ?_
                  refine WL.gon rfl rfl rfl ?_
                  refine WL.v (Runs.pick rfl rfl rfl) rfl ?_
                  refine WL.v (Runs.pick rfl rfl rfl) rfl ?_
                  refine WL.v (Runs.move rfl) rfl ?_
                  refine WL.gon rfl rfl rfl ?_
                  refine WL.v (Runs.fld fld24_0 rfl) rfl ?_
                  refine WL.gon rfl rfl rfl ?_
                  refine WL.v (Runs.load1 Try.underlying3 rfl rfl (h12.ocell (i := 0) rfl rfl)) rfl ?_
                  refine WL.gon rfl rfl rfl ?_
                  refine WL.v (Runs.boolT (c := true) (Runs.neq rfl rfl) (by rw [decide_eq_false (by omega)]; rfl)) rfl ?_
                  refine WL.v (Runs.pick rfl rfl rfl) rfl ?_
                  refine WL.v (Runs.move rfl) rfl ?_
                  refine WL.gon rfl rfl rfl ?_
                  refine WL.v (Runs.fld fld24_0 rfl) rfl ?_
                  refine WL.gon rfl rfl rfl ?_
                  refine WL.v (Runs.load1 Try.underlying3 rfl rfl (h12.ocell (i := 0) rfl rfl)) rfl ?_
                  refine WL.gon rfl rfl rfl ?_
                  refine WL.v (Runs.boolT (c := false) (Runs.neq rfl rfl) (by rw [decide_eq_true g2]; rfl)) rfl ?_
                  refine WL.v (Runs.pick rfl rfl rfl) rfl ?_
                  refine WL.nil (WN.thn ?_)
                  refine WC.condF rfl (rfl) ?_
                  refine WC.skip (WN.blk (WN.thn (WC.reg ?_)))
                  refine WL.v (Runs.move rfl) rfl ?_
                  refine WL.v (Runs.addn rfl rfl (by omega)) rfl ?_
                  refine WL.v (Runs.assign rfl) rfl ?_
                  refine WL.nil ?_
                  exact WN.again (k + 1) (by omega) ⟨rfl, rfl, rfl, rfl, trivial⟩ ⟨by omega, ((h12.drop 1).drop 0)⟩
                · skip
                  refine WC.reg ?_
                  refine WL.v (Runs.fld fld24_3 rfl) rfl ?_
                  refine WL.v (Runs.load1 Try.underlying3 rfl rfl (h12.ocell (i := 1) rfl rfl)) rfl ?_
                  refine WL.v (Runs.fld fld24_3 rfl) rfl ?_
                  refine WL.v (Runs.load1 Try.underlying3 rfl rfl (h12.ocell (i := 0) rfl rfl)) rfl ?_
                  refine WL.v (Runs.boolT (c := true) (Runs.eql rfl rfl) (decide_eq_true (by omega))) rfl ?_
                  refine WL.v (Runs.move rfl) rfl ?_
                  refine WL.gon rfl rfl rfl ?_
                  refine WL.v (Runs.fld fld24_0 rfl) rfl ?_
                  refine WL.gon rfl rfl rfl ?_
                  refine WL.v (Runs.load1 Try.underlying3 rfl rfl (h12.ocell (i := 1) rfl rfl)) rfl ?_
                  refine WL.gon rfl rfl rfl ?_
                  refine WL.v (Runs.boolT (c := false) (Runs.eql rfl rfl) (decide_eq_false (by omega))) rfl ?_
                  refine WL.gon rfl rfl rfl ?_
                  refine WL.v (Runs.move rfl) rfl ?_
                  refine WL.gon rfl rfl rfl ?_
                  refine WL.v (Runs.fld fld24_0 rfl) rfl ?_
                  refine WL.gon rfl rfl rfl ?_
                  refine WL.v (Runs.load1 Try.underlying3 rfl rfl (h12.ocell (i := 1) rfl rfl)) rfl ?_
                  refine WL.gon rfl rfl rfl ?_
                  refine WL.v (Runs.boolT (c := false) (Runs.eql rfl rfl) (decide_eq_false (by omega))) rfl ?_
                  refine WL.gon rfl rfl rfl ?_
                  refine WL.v (Runs.pick rfl rfl rfl) rfl ?_
                  refine WL.gon rfl rfl rfl ?_
                  refine WL.v (Runs.move rfl) rfl ?_
                  refine WL.gon rfl rfl rfl ?_
                  refine WL.v (Runs.fld fld24_0 rfl) rfl ?_
                  refine WL.gon rfl rfl rfl ?_
                  refine WL.v (Runs.load1 Try.underlying3 rfl rfl (h12.ocell (i := 1) rfl rfl)) rfl ?_
                  refine WL.gon rfl rfl rfl ?_
                  refine WL.v (Runs.boolT (c := true) (Runs.eql rfl rfl) (decide_eq_true (by omega))) rfl ?_
                  refine WL.gon rfl rfl rfl ?_
                  refine WL.v (Runs.pick rfl rfl rfl) rfl ?_
                  refine WL.v (Runs.pick rfl rfl rfl) rfl ?_
                  refine WL.v (Runs.move rfl) rfl ?_
                  refine WL.gon rfl rfl rfl ?_
                  refine WL.v (Runs.fld fld24_0 rfl) rfl ?_
                  refine WL.gon rfl rfl rfl ?_
                  refine WL.v (Runs.load1 Try.underlying3 rfl rfl (h12.ocell (i := 0) rfl rfl)) rfl ?_
                  refine WL.gon rfl rfl rfl ?_
                  refine WL.v (Runs.boolT (c := false) (Runs.neq rfl rfl) (by rw [decide_eq_true g2]; rfl)) rfl ?_
                  refine WL.v (Runs.pick rfl rfl rfl) rfl ?_
                  refine WL.v (Runs.move rfl) rfl ?_
                  refine WL.goff rfl rfl rfl rfl ?_
                  refine WL.goff rfl rfl rfl rfl ?_
                  refine WL.goff rfl rfl rfl rfl ?_
                  refine WL.v (Runs.pick rfl rfl rfl) rfl ?_
                  refine WL.nil (WN.thn ?_)
                  refine WC.condF rfl (rfl) ?_
                  refine WC.skip (WN.blk (WN.thn (WC.reg ?_)))
                  refine WL.v (Runs.move rfl) rfl ?_
                  refine WL.v (Runs.addn rfl rfl (by omega)) rfl ?_
                  refine WL.v (Runs.assign rfl) rfl ?_
                  refine WL.nil ?_
                  exact WN.again (k + 1) (by omega) ⟨rfl, rfl, rfl, rfl, trivial⟩ ⟨by omega, ((h12.drop 1).drop 0)⟩
                · skip
                  refine WC.reg ?_
                  refine WL.v (Runs.fld fld24_3 rfl) rfl ?_
                  refine WL.v (Runs.load1 Try.underlying3 rfl rfl (h12.ocell (i := 1) rfl rfl)) rfl ?_
                  refine WL.v (Runs.fld fld24_3 rfl) rfl ?_
                  refine WL.v (Runs.load1 Try.underlying3 rfl rfl (h12.ocell (i := 0) rfl rfl)) rfl ?_
                  refine WL.v (Runs.boolT (c := true) (Runs.eql rfl rfl) (decide_eq_true (by omega))) rfl ?_
                  refine WL.v (Runs.move rfl) rfl ?_
                  refine WL.gon rfl rfl rfl ?_
                  refine WL.v (Runs.fld fld24_0 rfl) rfl ?_
                  refine WL.gon rfl rfl rfl ?_
                  refine WL.v (Runs.load1 Try.underlying3 rfl rfl (h12.ocell (i := 1) rfl rfl)) rfl ?_
                  refine WL.gon rfl rfl rfl ?_
                  refine WL.v (Runs.boolT (c := false) (Runs.eql rfl rfl) (decide_eq_false (by omega))) rfl ?_
                  refine WL.gon rfl rfl rfl ?_
                  refine WL.v (Runs.move rfl) rfl ?_
                  refine WL.gon rfl rfl rfl ?_
                  refine WL.v (Runs.fld fld24_0 rfl) rfl ?_
                  refine WL.gon rfl rfl rfl ?_
                  refine WL.v (Runs.load1 Try.underlying3 rfl rfl (h12.ocell (i := 1) rfl rfl)) rfl ?_
                  refine WL.gon rfl rfl rfl ?_
                  refine WL.v (Runs.boolT (c := false) (Runs.eql rfl rfl) (decide_eq_false (by omega))) rfl ?_
                  refine WL.gon rfl rfl rfl ?_
                  refine WL.v (Runs.pick rfl rfl rfl) rfl ?_
                  refine WL.gon rfl rfl rfl ?_
                  refine WL.v (Runs.move rfl) rfl ?_
                  refine WL.gon rfl rfl rfl ?_
                  refine WL.v (Runs.fld fld24_0 rfl) rfl ?_
                  refine WL.gon rfl rfl rfl ?_
                  refine WL.v (Runs.load1 Try.underlying3 rfl rfl (h12.ocell (i := 1) rfl rfl)) rfl ?_
                  refine WL.gon rfl rfl rfl ?_
                  refine WL.v (Runs.boolT (c := true) (Runs.eql rfl rfl) (decide_eq_true (by omega))) rfl ?_
                  refine WL.gon rfl rfl rfl ?_
                  refine WL.v (Runs.pick rfl rfl rfl) rfl ?_
                  refine WL.v (Runs.pick rfl rfl rfl) rfl ?_
                  refine WL.v (Runs.move rfl) rfl ?_
                  refine WL.gon rfl rfl rfl ?_
                  refine WL.v (Runs.fld fld24_0 rfl) rfl ?_
                  refine WL.gon rfl rfl rfl ?_
                  refine WL.v (Runs.load1 Try.underlying3 rfl rfl (h12.ocell (i := 0) rfl rfl)) rfl ?_
                  refine WL.gon rfl rfl rfl ?_
                  refine WL.v (Runs.boolT (c := true) (Runs.neq rfl rfl) (by rw [decide_eq_false (by omega)]; rfl)) rfl ?_
                  refine WL.v (Runs.pick rfl rfl rfl) rfl ?_
                  refine WL.v (Runs.move rfl) rfl ?_
                  refine WL.gon rfl rfl rfl ?_
                  refine WL.v (Runs.fld fld24_0 rfl) rfl ?_
                  refine WL.gon rfl rfl rfl ?_
                  refine WL.v (Runs.load1 Try.underlying3 rfl rfl (h12.ocell (i := 0) rfl rfl)) rfl ?_
                  refine WL.gon rfl rfl rfl ?_
                  refine WL.v (Runs.boolT (c := false) (Runs.neq rfl rfl) (by rw [decide_eq_true g2]; rfl)) rfl ?_
                  refine WL.v (Runs.pick rfl rfl rfl) rfl ?_
                  refine WL.nil (WN.thn ?_)
                  refine WC.condF rfl (rfl) ?_
                  refine WC.skip (WN.blk (WN.thn (WC.reg ?_)))
                  refine WL.v (Runs.move rfl) rfl ?_
                  refine WL.v (Runs.addn rfl rfl (by omega)) rfl ?_
                  refine WL.v (Runs.assign rfl) rfl ?_
                  refine WL.nil ?_
                  exact WN.again (k + 1) (by omega) ⟨rfl, rfl, rfl, rfl, trivial⟩ ⟨by omega, ((h12.drop 1).drop 0)⟩
                · skip
                  refine WC.reg ?_
                  refine WL.v (Runs.fld fld24_3 rfl) rfl ?_
                  refine WL.v (Runs.load1 Try.underlying3 rfl rfl (h12.ocell (i := 1) rfl rfl)) rfl ?_
                  refine WL.v (Runs.fld fld24_3 rfl) rfl ?_
                  refine WL.v (Runs.load1 Try.underlying3 rfl rfl (h12.ocell (i := 0) rfl rfl)) rfl ?_
                  refine WL.v (Runs.boolT (c := true) (Runs.eql rfl rfl) (decide_eq_true (by omega))) rfl ?_
                  refine WL.v (Runs.move rfl) rfl ?_
                  refine WL.gon rfl rfl rfl ?_
                  refine WL.v (Runs.fld fld24_0 rfl) rfl ?_
                  refine WL.gon rfl rfl rfl ?_
                  refine WL.v (Runs.load1 Try.underlying3 rfl rfl (h12.ocell (i := 1) rfl rfl)) rfl ?_
                  refine WL.gon rfl rfl rfl ?_
                  refine WL.v (Runs.boolT (c := false) (Runs.eql rfl rfl) (decide_eq_false (by omega))) rfl ?_
                  refine WL.gon rfl rfl rfl ?_
                  refine WL.v (Runs.move rfl) rfl ?_
                  refine WL.gon rfl rfl rfl ?_
                  refine WL.v (Runs.fld fld24_0 rfl) rfl ?_
                  refine WL.gon rfl rfl rfl ?_
                  refine WL.v (Runs.load1 Try.underlying3 rfl rfl (h12.ocell (i := 1) rfl rfl)) rfl ?_
                  refine WL.gon rfl rfl rfl ?_
                  refine WL.v (Runs.boolT (c := false) (Runs.eql rfl rfl) (decide_eq_false (by omega))) rfl ?_
                  refine WL.gon rfl rfl rfl ?_
                  refine WL.v (Runs.pick rfl rfl rfl) rfl ?_
                  refine WL.gon rfl rfl rfl ?_
                  refine WL.v (Runs.move rfl) rfl ?_
                  refine WL.gon rfl rfl rfl ?_
                  refine WL.v (Runs.fld fld24_0 rfl) rfl ?_
                  refine WL.gon rfl rfl rfl ?_
                  refine WL.v (Runs.load1 Try.underlying3 rfl rfl (h12.ocell (i := 1) rfl rfl)) rfl ?_
                  refine WL.gon rfl rfl rfl ?_
                  refine WL.v (Runs.boolT (c := false) (Runs.eql rfl rfl) (decide_eq_false (by omega))) rfl ?_
                  refine WL.gon rfl rfl rfl ?_
                  refine WL.v (Runs.pick rfl rfl rfl) rfl ?_
                  refine WL.v (Runs.pick rfl rfl rfl) rfl ?_
                  refine WL.v (Runs.move rfl) rfl ?_
                  refine WL.goff rfl rfl rfl rfl ?_
                  refine WL.goff rfl rfl rfl rfl ?_
                  refine WL.goff rfl rfl rfl rfl ?_
                  refine WL.v (Runs.pick rfl rfl rfl) rfl ?_
                  refine WL.v (Runs.move rfl) rfl ?_
                  refine WL.goff rfl rfl rfl rfl ?_
                  refine WL.goff rfl rfl rfl rfl ?_
                  refine WL.goff rfl rfl rfl rfl ?_
                  refine WL.v (Runs.pick rfl rfl rfl) rfl ?_
                  refine WL.nil (WN.thn ?_)
                  refine WC.condF rfl (rfl) ?_
                  refine WC.skip (WN.blk (WN.thn (WC.reg ?_)))
                  refine WL.v (Runs.move rfl) rfl ?_
                  refine WL.v (Runs.addn rfl rfl (by omega)) rfl ?_
                  refine WL.v (Runs.assign rfl) rfl ?_
                  refine WL.nil ?_
                  exact WN.again (k + 1) (by omega) ⟨rfl, rfl, rfl, rfl, trivial⟩ ⟨by omega, ((h12.drop 1).drop 0)⟩
              · skip
                refine WC.reg ?_
                refine WL.v (Runs.fld fld24_0 rfl) rfl ?_
                refine WL.v (Runs.load1 Try.underlying3 rfl rfl (h12.ocell (i := 1) rfl rfl)) rfl ?_
                refine WL.v (Runs.boolT (c := false) (Runs.eql rfl rfl) (decide_eq_false (n1.1))) rfl ?_
                refine WL.v (Runs.move rfl) rfl ?_
                refine WL.gon rfl rfl rfl ?_
                refine WL.v (Runs.fld fld24_0 rfl) rfl ?_
                refine WL.gon rfl rfl rfl ?_
                refine WL.v (Runs.load1 Try.underlying3 rfl rfl (h12.ocell (i := 1) rfl rfl)) rfl ?_
                refine WL.gon rfl rfl rfl ?_
                refine WL.v (Runs.boolT (c := false) (Runs.eql rfl rfl) (decide_eq_false (n1.2.1))) rfl ?_
                refine WL.v (Runs.pick rfl rfl rfl) rfl ?_
                refine WL.v (Runs.move rfl) rfl ?_
                refine WL.gon rfl rfl rfl ?_
                refine WL.v (Runs.fld fld24_0 rfl) rfl ?_
                refine WL.gon rfl rfl rfl ?_
                refine WL.v (Runs.load1 Try.underlying3 rfl rfl (h12.ocell (i := 0) rfl rfl)) rfl ?_
                refine WL.gon rfl rfl rfl ?_
                refine WL.v (Runs.boolT (c := false) (Runs.eql rfl rfl) (decide_eq_false (n1.2.2))) rfl ?_
                refine WL.v (Runs.pick rfl rfl rfl) rfl ?_
                refine WL.v (Runs.move rfl) rfl ?_
                refine WL.gon rfl rfl rfl ?_
                refine WL.v (Runs.fld fld24_0 rfl) rfl ?_
                refine WL.gon rfl rfl rfl ?_
                refine WL.v (Runs.load1 Try.underlying3 rfl rfl (h12.ocell (i := 1) rfl rfl)) rfl ?_
                refine WL.gon rfl rfl rfl ?_
                refine WL.v (Runs.fld fld24_0 rfl) rfl ?_
                refine WL.gon rfl rfl rfl ?_
                refine WL.v (Runs.load1 Try.underlying3 rfl rfl (h12.ocell (i := 0) rfl rfl)) rfl ?_
                refine WL.gon rfl rfl rfl ?_
                refine WL.v (Runs.boolT (c := false) (Runs.eql rfl rfl) (decide_eq_false (g0))) rfl ?_
                refine WL.gon rfl rfl rfl ?_
                refine WL.v (Runs.move rfl) rfl ?_
                refine WL.goff rfl rfl rfl rfl ?_
                refine WL.goff rfl rfl rfl rfl ?_
                refine WL.goff rfl rfl rfl rfl ?_
                refine WL.goff rfl rfl rfl rfl ?_
                refine WL.goffU rfl rfl rfl ?_
                refine WL.goffU rfl rfl rfl ?_
                refine WL.goffU rfl rfl rfl ?_
                refine WL.goffU rfl rfl rfl ?_
                refine WL.goffU rfl rfl rfl ?_
                refine WL.goff rfl rfl rfl rfl ?_
                refine WL.gon rfl rfl rfl ?_
                refine WL.v (Runs.pick rfl rfl rfl) rfl ?_
                refine WL.v (Runs.pick rfl rfl rfl) rfl ?_
                refine WL.nil (WN.thn ?_)
                refine WC.condF rfl (rfl) ?_
                refine WC.skip (WN.thn (WC.seq ?_))
                rcases kinds (l.getD k R0).kd (l.getD i R0).kd (l.getD k R0).st (l.getD i R0).st n3 with g1 | ⟨g1, ⟨g3, g2⟩ | ⟨g3, g2⟩ | ⟨g3, g2⟩ | ⟨g3, g2⟩ | ⟨g3, g2⟩ | ⟨g3, g2⟩ | ⟨g2a, g2b, g2c⟩⟩
                · skip
                  refine WC.reg ?_
                  refine WL.v (Runs.fld fld24_3 rfl) rfl ?_
                  refine WL.v (Runs.load1 Try.underlying3 rfl rfl (h12.ocell (i := 1) rfl rfl)) rfl ?_
                  refine WL.v (Runs.fld fld24_3 rfl) rfl ?_
                  refine WL.v (Runs.load1 Try.underlying3 rfl rfl (h12.ocell (i := 0) rfl rfl)) rfl ?_
                  refine WL.v (Runs.boolT (c := false) (Runs.eql rfl rfl) (decide_eq_false (g1))) rfl ?_
                  refine WL.v (Runs.move rfl) rfl ?_
                  refine WL.goff rfl rfl rfl rfl ?_
                  refine WL.goff rfl rfl rfl rfl ?_
                  refine WL.goff rfl rfl rfl rfl ?_
                  refine WL.goff rfl rfl rfl rfl ?_
                  refine WL.goffU rfl rfl rfl ?_
                  refine WL.goffU rfl rfl rfl ?_
                  refine WL.goffU rfl rfl rfl ?_
                  refine WL.goff rfl rfl rfl rfl ?_
                  refine WL.goff rfl rfl rfl rfl ?_
                  refine WL.goffU rfl rfl rfl ?_
                  refine WL.goffU rfl rfl rfl ?_
                  refine WL.goffU rfl rfl rfl ?_
                  refine WL.goff rfl rfl rfl rfl ?_
                  refine WL.v (Runs.pick rfl rfl rfl) rfl ?_
                  refine WL.v (Runs.move rfl) rfl ?_
                  refine WL.goff rfl rfl rfl rfl ?_
                  refine WL.goff rfl rfl rfl rfl ?_
                  refine WL.goff rfl rfl rfl rfl ?_
                  refine WL.v (Runs.pick rfl rfl rfl) rfl ?_
                  refine WL.v (Runs.move rfl) rfl ?_
                  refine WL.goff rfl rfl rfl rfl ?_
                  refine WL.goff rfl rfl rfl rfl ?_
                  refine WL.goff rfl rfl rfl rfl ?_
                  refine WL.v (Runs.pick rfl rfl rfl) rfl ?_
                  refine WL.nil (WN.thn ?_)
                  refine WC.condF rfl (rfl) ?_
                  refine WC.skip (WN.blk (WN.thn (WC.reg ?_)))
                  refine WL.v (Runs.move rfl) rfl ?_
                  refine WL.v (Runs.addn rfl rfl (by omega)) rfl ?_
                  refine WL.v (Runs.assign rfl) rfl ?_
                  refine WL.nil ?_
                  exact WN.again (k + 1) (by omega) ⟨rfl, rfl, rfl, rfl, trivial⟩ ⟨by omega, ((h12.drop 1).drop 0)⟩
                · skip
                  refine WC.reg ?_
                  refine WL.v (Runs.fld fld24_3 rfl) rfl ?_
                  refine WL.v (Runs.load1 Try.underlying3 rfl rfl (h12.ocell (i := 1) rfl rfl)) rfl ?_
                  refine WL.v (Runs.fld fld24_3 rfl) rfl ?_
                  refine WL.v (Runs.load1 Try.underlying3 rfl rfl (h12.ocell (i := 0) rfl rfl)) rfl ?_
                  refine WL.v (Runs.boolT (c := true) (Runs.eql rfl rfl) (decide_eq_true (by omega))) rfl ?_
                  refine WL.v (Runs.move rfl) rfl ?_
                  refine WL.gon rfl rfl rfl ?_
                  refine WL.v (Runs.fld fld24_0 rfl) rfl ?_
                  refine WL.gon rfl rfl rfl ?_
                  refine WL.v (Runs.load1 Try.underlying3 rfl rfl (h12.ocell (i := 1) rfl rfl)) rfl ?_
                  refine WL.gon rfl rfl rfl ?_
                  refine WL.v (Runs.boolT (c := true) (Runs.eql rfl rfl) (decide_eq_true (by omega))) rfl ?_
                  refine WL.gon rfl rfl rfl ?_
                  refine WL.v (Runs.move rfl) rfl ?_
                  refine WL.goff rfl rfl rfl rfl ?_
                  refine WL.goff rfl rfl rfl rfl ?_
                  refine WL.goff rfl rfl rfl rfl ?_
                  refine WL.gon rfl rfl rfl ?_
                  refine WL.v (Runs.pick rfl rfl rfl) rfl ?_
                  refine WL.gon rfl rfl rfl ?_
                  refine WL.v (Runs.move rfl) rfl ?_
                  refine WL.goff rfl rfl rfl rfl ?_
                  refine WL.goff rfl rfl rfl rfl ?_
                  refine WL.goff rfl rfl rfl rfl ?_
                  refine WL.gon rfl rfl rfl ?_
                  refine WL.v (Runs.pick rfl rfl rfl) rfl ?_
                  refine WL.v (Runs.pick rfl rfl rfl) rfl ?_
                  refine WL.v (Runs.move rfl) rfl ?_
                  refine WL.gon rfl rfl rfl ?_
                  refine WL.v (Runs.fld fld24_0 rfl) rfl ?_
                  refine WL.gon rfl rfl rfl ?_
                  refine WL.v (Runs.load1 Try.underlying3 rfl rfl (h12.ocell (i := 0) rfl rfl)) rfl ?_
                  refine WL.gon rfl rfl rfl ?_
                  refine WL.v (Runs.boolT (c := false) (Runs.neq rfl rfl) (by rw [decide_eq_true g2]; rfl)) rfl ?_
                  refine WL.v (Runs.pick rfl rfl rfl) rfl ?_
                  refine WL.v (Runs.move rfl) rfl ?_
                  refine WL.goff rfl rfl rfl rfl ?_
                  refine WL.goff rfl rfl rfl rfl ?_
                  refine WL.goff rfl rfl rfl rfl ?_
                  refine WL.v (Runs.pick rfl rfl rfl) rfl ?_
                  refine WL.nil (WN.thn ?_)
                  refine WC.condF rfl (rfl) ?_
                  refine WC.skip (WN.blk (WN.thn (WC.reg ?_)))
                  refine WL.v (Runs.move rfl) rfl ?_
                  refine WL.v (Runs.addn rfl rfl (by omega)) rfl ?_
                  refine WL.v (Runs.assign rfl) rfl ?_
                  refine WL.nil ?_
                  exact WN.again (k + 1) (by omega) ⟨rfl, rfl, rfl, rfl, trivial⟩ ⟨by omega, ((h12.drop 1).drop 0)⟩
                · skip
                  refine WC.reg ?_
                  refine WL.v (Runs.fld fld24_3 rfl) rfl ?_
                  refine WL.v (Runs.load1 Try.underlying3 rfl rfl (h12.ocell (i := 1) rfl rfl)) rfl ?_
                  refine WL.v (Runs.fld fld24_3 rfl) rfl ?_
                  refine WL.v (Runs.load1 Try.underlying3 rfl rfl (h12.ocell (i := 0) rfl rfl)) rfl ?_
                  refine WL.v (Runs.boolT (c := true) (Runs.eql rfl rfl) (decide_eq_true (by omega))) rfl ?_
                  refine WL.v (Runs.move rfl) rfl ?_
                  refine WL.gon rfl rfl rfl ?_
                  refine WL.v (Runs.fld fld24_0 rfl) rfl ?_
                  refine WL.gon rfl rfl rfl ?_
                  refine WL.v (Runs.load1 Try.underlying3 rfl rfl (h12.ocell (i := 1) rfl rfl)) rfl ?_
                  refine WL.gon rfl rfl rfl ?_
                  refine WL.v (Runs.boolT (c := true) (Runs.eql rfl rfl) (decide_eq_true (by omega))) rfl ?_
                  refine WL.gon rfl rfl rfl ?_
                  refine WL.v (Runs.move rfl) rfl ?_
                  refine WL.goff rfl rfl rfl rfl ?_
                  refine WL.goff rfl rfl rfl rfl ?_
                  refine WL.goff rfl rfl rfl rfl ?_
                  refine WL.gon rfl rfl rfl ?_
                  refine WL.v (Runs.pick rfl rfl rfl) rfl ?_
                  refine WL.gon rfl rfl rfl ?_
                  refine WL.v (Runs.move rfl) rfl ?_
                  refine WL.goff rfl rfl rfl rfl ?_
                  refine WL.goff rfl rfl rfl rfl ?_
                  refine WL.goff rfl rfl rfl rfl ?_
                  refine WL.gon rfl rfl rfl ?_
                  refine WL.v (Runs.pick rfl rfl rfl) rfl ?_
                  refine WL.v (Runs.pick rfl rfl rfl) rfl ?_
                  refine WL.v (Runs.move rfl) rfl ?_
                  refine WL.gon rfl rfl rfl ?_
                  refine WL.v (Runs.fld fld24_0 rfl) rfl ?_
                  refine WL.gon rfl rfl rfl ?_
                  refine WL.v (Runs.load1 Try.underlying3 rfl rfl (h12.ocell (i := 0) rfl rfl)) rfl ?_
                  refine WL.gon rfl rfl rfl ?_
                  refine WL.v (Runs.boolT (c := true) (Runs.neq rfl rfl) (by rw [decide_eq_false (by omega)]; rfl)) rfl ?_
                  refine WL.v (Runs.pick rfl rfl rfl) rfl ?_
                  refine WL.v (Runs.move rfl) rfl ?_
                  refine WL.gon rfl rfl rfl ?_
                  refine WL.v (Runs.fld fld24_0 rfl) rfl ?_
                  refine WL.gon rfl rfl rfl ?_
                  refine WL.v (Runs.load1 Try.underlying3 rfl rfl (h12.ocell (i := 0) rfl rfl)) rfl ?_
                  refine WL.gon rfl rfl rfl ?_
                  refine WL.v (Runs.boolT (c := false) (Runs.neq rfl rfl) (by rw [decide_eq_true g2]; rfl)) rfl ?_
                  refine WL.v (Runs.pick rfl rfl rfl) rfl ?_
                  refine WL.nil (WN.thn ?_)
                  refine WC.condF rfl (rfl) ?_
                  refine WC.skip (WN.blk (WN.thn (WC.reg ?_)))
                  refine WL.v (Runs.move rfl) rfl ?_
                  refine WL.v (Runs.addn rfl rfl (by omega)) rfl ?_
                  refine WL.v (Runs.assign rfl) rfl ?_
                  refine WL.nil ?_
                  exact WN.again (k + 1) (by omega) ⟨rfl, rfl, rfl, rfl, trivial⟩ ⟨by omega, ((h12.drop 1).drop 0)⟩
                · skip
                  refine WC.reg ?_
                  refine WL.v (Runs.fld fld24_3 rfl) rfl ?_
                  refine WL.v (Runs.load1 Try.underlying3 rfl rfl (h12.ocell (i := 1) rfl rfl)) rfl ?_
                  refine WL.v (Runs.fld fld24_3 rfl) rfl ?_
                  refine WL.v (Runs.load1 Try.underlying3 rfl rfl (h12.ocell (i := 0) rfl rfl)) rfl ?_
                  refine WL.v (Runs.boolT (c := true) (Runs.eql rfl rfl) (decide_eq_true (by omega))) rfl ?_
                  refine WL.v (Runs.move rfl) rfl ?_
                  refine WL.gon rfl rfl rfl ?_
                  refine WL.v (Runs.fld fld24_0 rfl) rfl ?_
                  refine WL.gon rfl rfl rfl ?_
                  refine WL.v (Runs.load1 Try.underlying3 rfl rfl (h12.ocell (i := 1) rfl rfl)) rfl ?_
                  refine WL.gon rfl rfl rfl ?_
                  refine WL.v (Runs.boolT (c := false) (Runs.eql rfl rfl) (decide_eq_false (by omega))) rfl ?_
                  refine WL.gon rfl rfl rfl ?_
                  refine WL.v (Runs.move rfl) rfl ?_
                  refine WL.gon rfl rfl rfl ?_
                  refine WL.v (Runs.fld fld24_0 rfl) rfl ?_
                  refine WL.gon rfl rfl rfl ?_
                  refine WL.v (Runs.load1 Try.underlying3 rfl rfl (h12.ocell (i := 1) rfl rfl)) rfl ?_
                  refine WL.gon rfl rfl rfl ?_
                  refine WL.v (Runs.boolT (c := true) (Runs.eql rfl rfl) (decide_eq_true (by omega))) rfl ?_
                  refine WL.gon rfl rfl rfl ?_
                  refine WL.v (Runs.pick rfl rfl rfl) rfl ?_
                  refine WL.gon rfl rfl rfl ?_
                  refine WL.v (Runs.move rfl) rfl ?_
                  refine WL.goff rfl rfl rfl rfl ?_
                  refine WL.goff rfl rfl rfl rfl ?_
                  refine WL.goff rfl rfl rfl rfl ?_
                  refine WL.gon rfl rfl rfl ?_
                  refine WL.v (Runs.pick rfl rfl rfl) rfl ?_
                  refine WL.v (Runs.pick rfl rfl rfl) rfl ?_
                  refine WL.v (Runs.move rfl) rfl ?_
                  refine WL.gon rfl rfl rfl ?_
                  refine WL.v (Runs.fld fld24_0 rfl) rfl ?_
                  refine WL.gon rfl rfl rfl ?_
                  refine WL.v (Runs.load1 Try.underlying3 rfl rfl (h12.ocell (i := 0) rfl rfl)) rfl ?_
                  refine WL.gon rfl rfl rfl ?_
                  refine WL.v (Runs.boolT (c := false) (Runs.neq rfl rfl) (by rw [decide_eq_true g2]; rfl)) rfl ?_
                  refine WL.v (Runs.pick rfl rfl rfl) rfl ?_
                  refine WL.v (Runs.move rfl) rfl ?_
                  refine WL.goff rfl rfl rfl rfl ?_
                  refine WL.goff rfl rfl rfl rfl ?_
                  refine WL.goff rfl rfl rfl rfl ?_
                  refine WL.v (Runs.pick rfl rfl rfl) rfl ?_
                  refine WL.nil (WN.thn ?_)
                  refine WC.condF rfl (rfl) ?_
                  refine WC.skip (WN.blk (WN.thn (WC.reg ?_)))
                  refine WL.v (Runs.move rfl) rfl ?_
                  refine WL.v (Runs.addn rfl rfl (by omega)) rfl ?_
                  refine WL.v (Runs.assign rfl) rfl ?_
                  refine WL.nil ?_
                  exact WN.again (k + 1) (by omega) ⟨rfl, rfl, rfl, rfl, trivial⟩ ⟨by omega, ((h12.drop 1).drop 0)⟩
                · skip
                  refine WC.reg ?_
                  refine WL.v (Runs.fld fld24_3 rfl) rfl ?_
                  refine WL.v (Runs.load1 Try.underlying3 rfl rfl (h12.ocell (i := 1) rfl rfl)) rfl ?_
                  refine WL.v (Runs.fld fld24_3 rfl) rfl ?_
                  refine WL.v (Runs.load1 Try.underlying3 rfl rfl (h12.ocell (i := 0) rfl rfl)) rfl ?_
                  refine WL.v (Runs.boolT (c := true) (Runs.eql rfl rfl) (decide_eq_true (by omega))) rfl ?_
                  refine WL.v (Runs.move rfl) rfl ?_
                  refine WL.gon rfl rfl rfl ?_
                  refine WL.v (Runs.fld fld24_0 rfl) rfl ?_
                  refine WL.gon rfl rfl rfl ?_
                  refine WL.v (Runs.load1 Try.underlying3 rfl rfl (h12.ocell (i := 1) rfl rfl)) rfl ?_
                  refine WL.gon rfl rfl rfl ?_
                  refine WL.v (Runs.boolT (c := false) (Runs.eql rfl rfl) (decide_eq_false (by omega))) rfl ?_
                  refine WL.gon rfl rfl rfl ?_
                  refine WL.v (Runs.move rfl) rfl ?_
                  refine WL.gon rfl rfl rfl ?_
                  refine WL.v (Runs.fld fld24_0 rfl) rfl ?_
                  refine WL.gon rfl rfl rfl ?_
                  refine WL.v (Runs.load1 Try.underlying3 rfl rfl (h12.ocell (i := 1) rfl rfl)) rfl ?_
                  refine WL.gon rfl rfl rfl ?_
                  refine WL.v (Runs.boolT (c := true) (Runs.eql rfl rfl) (decide_eq_true (by omega))) rfl ?_
                  refine WL.gon rfl rfl rfl ?_
                  refine WL.v (Runs.pick rfl rfl rfl) rfl ?_
                  refine WL.gon rfl rfl rfl ?_
                  refine WL.v (Runs.move rfl) rfl ?_
                  refine WL.goff rfl rfl rfl rfl ?_
                  refine WL.goff rfl rfl rfl rfl ?_
                  refine WL.goff rfl rfl rfl rfl ?_
                  refine WL.gon rfl rfl rfl ?_
                  refine WL.v (Runs.pick rfl rfl rfl) rfl ?_
                  refine WL.v (Runs.pick rfl rfl rfl) rfl ?_
                  refine WL.v (Runs.move rfl) rfl ?_
                  refine WL.gon rfl rfl rfl ?_
                  refine WL.v (Runs.fld fld24_0 rfl) rfl ?_
                  refine WL.gon rfl rfl rfl ?_
                  refine WL.v (Runs.load1 Try.underlying3 rfl rfl (h12.ocell (i := 0) rfl rfl)) rfl ?_
                  refine WL.gon rfl rfl rfl ?_
                  refine WL.v (Runs.boolT (c := true) (Runs.neq rfl rfl) (by rw [decide_eq_false (by omega)]; rfl)) rfl ?_
                  refine WL.v (Runs.pick rfl rfl rfl) rfl ?_
                  refine WL.v (Runs.move rfl) rfl ?_
                  refine WL.gon rfl rfl rfl ?_
                  refine WL.v (Runs.fld fld24_0 rfl) rfl ?_
                  refine WL.gon rfl rfl rfl ?_
                  refine WL.v (Runs.load1 Try.underlying3 rfl rfl (h12.ocell (i := 0) rfl rfl)) rfl ?_
                  refine WL.gon rfl rfl rfl ?_
                  refine WL.v (Runs.boolT (c := false) (Runs.neq rfl rfl) (by rw [decide_eq_true g2]; rfl)) rfl ?_
                  refine WL.v (Runs.pick rfl rfl rfl) rfl ?_
                  refine WL.nil (WN.thn ?_)
                  refine WC.condF rfl (rfl) ?_
                  refine WC.skip (WN.blk (WN.thn (WC.reg ?_)))
                  refine WL.v (Runs.move rfl) rfl ?_
                  refine WL.v (Runs.addn rfl rfl (by omega)) rfl ?_
                  refine WL.v (Runs.assign rfl) rfl ?_
                  refine WL.nil ?_
                  exact WN.again (k + 1) (by omega) ⟨rfl, rfl, rfl, rfl, trivial⟩ ⟨by omega, ((h12.drop 1).drop 0)⟩
                · skip
                  refine WC.reg ?_
                  refine WL.v (Runs.fld fld24_3 rfl) rfl ?_
                  refine WL.v (Runs.load1 Try.underlying3 rfl rfl (h12.ocell (i := 1) rfl rfl)) rfl ?_
                  refine WL.v (Runs.fld fld24_3 rfl) rfl ?_
                  refine WL.v (Runs.load1 Try.underlying3 rfl rfl (h12.ocell (i := 0) rfl rfl)) rfl ?_
                  refine WL.v (Runs.boolT (c := true) (Runs.eql rfl rfl) (decide_eq_true (by omega))) rfl ?_
                  refine WL.v (Runs.move rfl) rfl ?_
                  refine WL.gon rfl rfl rfl ?_
                  refine WL.v (Runs.fld fld24_0 rfl) rfl ?_
                  refine WL.gon rfl rfl rfl ?_
                  refine WL.v (Runs.load1 Try.underlying3 rfl rfl (h12.ocell (i := 1) rfl rfl)) rfl ?_
                  refine WL.gon rfl rfl rfl ?_
                  refine WL.v (Runs.boolT (c := false) (Runs.eql rfl rfl) (decide_eq_false (by omega))) rfl ?_
                  refine WL.gon rfl rfl rfl ?_
                  refine WL.v (Runs.move rfl) rfl ?_
                  refine WL.gon rfl rfl rfl ?_
                  refine WL.v (Runs.fld fld24_0 rfl) rfl ?_
                  refine WL.gon rfl rfl rfl ?_
                  refine WL.v (Runs.load1 Try.underlying3 rfl rfl (h12.ocell (i := 1) rfl rfl)) rfl ?_
                  refine WL.gon rfl rfl rfl ?_
                  refine WL.v (Runs.boolT (c := false) (Runs.eql rfl rfl) (decide_eq_false (by omega))) rfl ?_
                  refine WL.gon rfl rfl rfl ?_
                  refine WL.v (Runs.pick rfl rfl rfl) rfl ?_
                  refine WL.gon rfl rfl rfl ?_
                  refine WL.v (Runs.move rfl) rfl ?_
                  refine WL.gon rfl rfl rfl ?_
                  refine WL.v (Runs.fld fld24_0 rfl) rfl ?_
                  refine WL.gon rfl rfl rfl ?_
                  refine WL.v (Runs.load1 Try.underlying3 rfl rfl (h12.ocell (i := 1) rfl rfl)) rfl ?_
                  refine WL.gon rfl rfl rfl ?_
                  refine WL.v (Runs.boolT (c := true) (Runs.eql rfl rfl) (decide_eq_true (by omega))) rfl ?_
                  refine WL.gon rfl rfl rfl ?_
                  refine WL.v (Runs.pick rfl rfl rfl) rfl ?_
                  refine WL.v (Runs.pick rfl rfl rfl) rfl ?_
                  refine WL.v (Runs.move rfl) rfl ?_
                  refine WL.gon rfl rfl rfl ?_
                  refine WL.v (Runs.fld fld24_0 rfl) rfl ?_
                  refine WL.gon rfl rfl rfl ?_
                  refine WL.v (Runs.load1 Try.underlying3 rfl rfl (h12.ocell (i := 0) rfl rfl)) rfl ?_
                  refine WL.gon rfl rfl rfl ?_
                  refine WL.v (Runs.boolT (c := false) (Runs.neq rfl rfl) (by rw [decide_eq_true g2]; rfl)) rfl ?_
                  refine WL.v (Runs.pick rfl rfl rfl) rfl ?_
                  refine WL.v (Runs.move rfl) rfl ?_
                  refine WL.goff rfl rfl rfl rfl ?_
                  refine WL.goff rfl rfl rfl rfl ?_
                  refine WL.goff rfl rfl rfl rfl ?_
                  refine WL.v (Runs.pick rfl rfl rfl) rfl ?_
                  refine WL.nil (WN.thn ?_)
                  refine WC.condF rfl (rfl) ?_
                  refine WC.skip (WN.blk (WN.thn (WC.reg ?_)))
                  refine WL.v (Runs.move rfl) rfl ?_
                  refine WL.v (Runs.addn rfl rfl (by omega)) rfl ?_
                  refine WL.v (Runs.assign rfl) rfl ?_
                  refine WL.nil ?_
                  exact WN.again (k + 1) (by omega) ⟨rfl, rfl, rfl, rfl, trivial⟩ ⟨by omega, ((h12.drop 1).drop 0)⟩
                · skip
                  refine WC.reg ?_
                  refine WL.v (Runs.fld fld24_3 rfl) rfl ?_
                  refine WL.v (Runs.load1 Try.underlying3 rfl rfl (h12.ocell (i := 1) rfl rfl)) rfl ?_
                  refine WL.v (Runs.fld fld24_3 rfl) rfl ?_
                  refine WL.v (Runs.load1 Try.underlying3 rfl rfl (h12.ocell (i := 0) rfl rfl)) rfl ?_
                  refine WL.v (Runs.boolT (c := true) (Runs.eql rfl rfl) (decide_eq_true (by omega))) rfl ?_
                  refine WL.v (Runs.move rfl) rfl ?_
                  refine WL.gon rfl rfl rfl ?_
                  refine WL.v (Runs.fld fld24_0 rfl) rfl ?_
                  refine WL.gon rfl rfl rfl ?_
                  refine WL.v (Runs.load1 Try.underlying3 rfl rfl (h12.ocell (i := 1) rfl rfl)) rfl ?_
                  refine WL.gon rfl rfl rfl ?_
                  refine WL.v (Runs.boolT (c := false) (Runs.eql rfl rfl) (decide_eq_false (by omega))) rfl ?_
                  refine WL.gon rfl rfl rfl ?_
                  refine WL.v (Runs.move rfl) rfl ?_
                  refine WL.gon rfl rfl rfl ?_
                  refine WL.v (Runs.fld fld24_0 rfl) rfl ?_
                  refine WL.gon rfl rfl rfl ?_
                  refine WL.v (Runs.load1 Try.underlying3 rfl rfl (h12.ocell (i := 1) rfl rfl)) rfl ?_
                  refine WL.gon rfl rfl rfl ?_
                  refine WL.v (Runs.boolT (c := false) (Runs.eql rfl rfl) (decide_eq_false (by omega))) rfl ?_
                  refine WL.gon rfl rfl rfl ?_
                  refine WL.v (Runs.pick rfl rfl rfl) rfl ?_
                  refine WL.gon rfl rfl rfl ?_
                  refine WL.v (Runs.move rfl) rfl ?_
                  refine WL.gon rfl rfl rfl ?_
                  refine WL.v (Runs.fld fld24_0 rfl) rfl ?_
                  refine WL.gon rfl rfl rfl ?_
                  refine WL.v (Runs.load1 Try.underlying3 rfl rfl (h12.ocell (i := 1) rfl rfl)) rfl ?_
                  refine WL.gon rfl rfl rfl ?_
                  refine WL.v (Runs.boolT (c := true) (Runs.eql rfl rfl) (decide_eq_true (by omega))) rfl ?_
                  refine WL.gon rfl rfl rfl ?_
                  refine WL.v (Runs.pick rfl rfl rfl) rfl ?_
                  refine WL.v (Runs.pick rfl rfl rfl) rfl ?_
                  refine WL.v (Runs.move rfl) rfl ?_
                  refine WL.gon rfl rfl rfl ?_
                  refine WL.v (Runs.fld fld24_0 rfl) rfl ?_
                  refine WL.gon rfl rfl rfl ?_
                  refine WL.v (Runs.load1 Try.underlying3 rfl rfl (h12.ocell (i := 0) rfl rfl)) rfl ?_
                  refine WL.gon rfl rfl rfl ?_
                  refine WL.v (Runs.boolT (c := true) (Runs.neq rfl rfl) (by rw [decide_eq_false (by omega)]; rfl)) rfl ?_
                  refine WL.v (Runs.pick rfl rfl rfl) rfl ?_
                  refine WL.v (Runs.move rfl) rfl ?_
                  refine WL.gon rfl rfl rfl ?_
                  refine WL.v (Runs.fld fld24_0 rfl) rfl ?_
                  refine WL.gon rfl rfl rfl ?_
                  refine WL.v (Runs.load1 Try.underlying3 rfl rfl (h12.ocell (i := 0) rfl rfl)) rfl ?_
                  refine WL.gon rfl rfl rfl ?_
                  refine WL.v (Runs.boolT (c := false) (Runs.neq rfl rfl) (by rw [decide_eq_true g2]; rfl)) rfl ?_
                  refine WL.v (Runs.pick rfl rfl rfl) rfl ?_
                  refine WL.nil (WN.thn ?_)
                  refine WC.condF rfl (rfl) ?_
                  refine WC.skip (WN.blk (WN.thn (WC.reg ?_)))
                  refine WL.v (Runs.move rfl) rfl ?_
                  refine WL.v (Runs.addn rfl rfl (by omega)) rfl ?_
                  refine WL.v (Runs.assign rfl) rfl ?_
                  refine WL.nil ?_
                  exact WN.again (k + 1) (by omega) ⟨rfl, rfl, rfl, rfl, trivial⟩ ⟨by omega, ((h12.drop 1).drop 0)⟩
                · skip
                  refine WC.reg ?_
                  refine WL.v (Runs.fld fld24_3 rfl) rfl ?_
                  refine WL.v (Runs.load1 Try.underlying3 rfl rfl (h12.ocell (i := 1) rfl rfl)) rfl ?_
                  refine WL.v (Runs.fld fld24_3 rfl) rfl ?_
                  refine WL.v (Runs.load1 Try.underlying3 rfl rfl (h12.ocell (i := 0) rfl rfl)) rfl ?_
                  refine WL.v (Runs.boolT (c := true) (Runs.eql rfl rfl) (decide_eq_true (by omega))) rfl ?_
                  refine WL.v (Runs.move rfl) rfl ?_
                  refine WL.gon rfl rfl rfl ?_
                  refine WL.v (Runs.fld fld24_0 rfl) rfl ?_
                  refine WL.gon rfl rfl rfl ?_
                  refine WL.v (Runs.load1 Try.underlying3 rfl rfl (h12.ocell (i := 1) rfl rfl)) rfl ?_
                  refine WL.gon rfl rfl rfl ?_
                  refine WL.v (Runs.boolT (c := false) (Runs.eql rfl rfl) (decide_eq_false (by omega))) rfl ?_
                  refine WL.gon rfl rfl rfl ?_
                  refine WL.v (Runs.move rfl) rfl ?_
                  refine WL.gon rfl rfl rfl ?_
                  refine WL.v (Runs.fld fld24_0 rfl) rfl ?_
                  refine WL.gon rfl rfl rfl ?_
                  refine WL.v (Runs.load1 Try.underlying3 rfl rfl (h12.ocell (i := 1) rfl rfl)) rfl ?_
                  refine WL.gon rfl rfl rfl ?_
                  refine WL.v (Runs.boolT (c := false) (Runs.eql rfl rfl) (decide_eq_false (by omega))) rfl ?_
                  refine WL.gon rfl rfl rfl ?_
                  refine WL.v (Runs.pick rfl rfl rfl) rfl ?_
                  refine WL.gon rfl rfl rfl ?_
                  refine WL.v (Runs.move rfl) rfl ?_
                  refine WL.gon rfl rfl rfl ?_
                  refine WL.v (Runs.fld fld24_0 rfl) rfl ?_
                  refine WL.gon rfl rfl rfl ?_
                  refine WL.v (Runs.load1 Try.underlying3 rfl rfl (h12.ocell (i := 1) rfl rfl)) rfl ?_
                  refine WL.gon rfl rfl rfl ?_
                  refine WL.v (Runs.boolT (c := false) (Runs.eql rfl rfl) (decide_eq_false (by omega))) rfl ?_
                  refine WL.gon rfl rfl rfl ?_
                  refine WL.v (Runs.pick rfl rfl rfl) rfl ?_
                  refine WL.v (Runs.pick rfl rfl rfl) rfl ?_
                  refine WL.v (Runs.move rfl) rfl ?_
                  refine WL.goff rfl rfl rfl rfl ?_
                  refine WL.goff rfl rfl rfl rfl ?_
                  refine WL.goff rfl rfl rfl rfl ?_
                  refine WL.v (Runs.pick rfl rfl rfl) rfl ?_
                  refine WL.v (Runs.move rfl) rfl ?_
                  refine WL.goff rfl rfl rfl rfl ?_
                  refine WL.goff rfl rfl rfl rfl ?_
                  refine WL.goff rfl rfl rfl rfl ?_
                  refine WL.v (Runs.pick rfl rfl rfl) rfl ?_
                  refine WL.nil (WN.thn ?_)
                  refine WC.condF rfl (rfl) ?_
                  refine WC.skip (WN.blk (WN.thn (WC.reg ?_)))
                  refine WL.v (Runs.move rfl) rfl ?_
                  refine WL.v (Runs.addn rfl rfl (by omega)) rfl ?_
                  refine WL.v (Runs.assign rfl) rfl ?_
                  refine WL.nil ?_
                  exact WN.again (k + 1) (by omega) ⟨rfl, rfl, rfl, rfl, trivial⟩ ⟨by omega, ((h12.drop 1).drop 0)⟩
        · try simp only [dt, df, nt, nf, ba, il, ie] at c8
          first
          | (exfalso; omega)
          | skip
            refine WC.exit (WX.thn (WX.cut (WX.hit (WN.blk (WN.thn ?_)))))
            refine WC.reg ?_
            refine WL.v (Runs.move rfl) rfl ?_
            refine WL.v (Runs.addn rfl rfl (by omega)) rfl ?_
            refine WL.v (Runs.assign rfl) rfl ?_
            refine WL.nil ?_
            exact WN.again (i + 1) (by omega) ⟨rfl, rfl, rfl, trivial⟩ ⟨by omega, hL⟩
    · try simp only [dt, df, nt, nf, ba, il, ie] at c6
      first
      | (exfalso; omega)
      | skip
        refine WC.exit (WX.thn (WX.cut (WX.hit (WN.thn (WC.seq ?_)))))
        refine WC.reg ?_
        refine WL.call can10 rfl rfl (live_c _ hL) ?_
        rintro _ w13 ⟨G118, hG118, rfl, h13⟩
        refine ⟨_, rfl, ?_⟩
        replace hleF := Le.trans hleF hG118
        replace hR := hR.mono hG118
        replace hZ15 := hZ15.mono hG118
        refine WL.v (Runs.assign rfl) rfl ?_
        refine WL.nil (WN.thn (WC.ret ?_))
        have h90 := (h13.drop 0)
        try simp only [List.eraseIdx_cons_zero] at h90
        exact ret1 rfl rfl ⟨rfl, h90.weak hleF⟩
  · skip
    refine WC.reg ?_
    refine WL.v (Runs.move rfl) rfl ?_
    refine WL.call can28 rfl rfl (small_c _ h hR hlm) ?_
    rintro _ w14 ⟨rfl, h14⟩
    refine ⟨_, rfl, ?_⟩
    refine WL.v (Runs.boolT (c := true) (Runs.not rfl) (by rw [decide_eq_false hs]; rfl)) rfl ?_
    refine WL.nil (WN.thn ?_)
    refine WC.condT rfl (rfl) ?_
    refine WC.seq (WC.reg ?_)
    refine WL.call can10 rfl rfl (live_c _ h14) ?_
    rintro _ w15 ⟨G12, hG12, rfl, h15⟩
    refine ⟨_, rfl, ?_⟩
    replace hleF := Le.trans hleF hG12
    replace hR := hR.mono hG12
    refine WL.v (Runs.assign rfl) rfl ?_
    refine WL.nil (WN.thn (WC.ret ?_))
    have h90 := h15
    try simp only [List.eraseIdx_cons_zero] at h90
    exact ret1 rfl rfl ⟨rfl, h90.weak hleF⟩
end Rc
end Go.Proofs.Ythejglgnoingfaa
