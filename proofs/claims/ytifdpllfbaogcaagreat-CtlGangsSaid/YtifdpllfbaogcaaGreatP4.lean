/- Joined texts: W17 .. X11. -/
import Derived.Test.YtifdpllfbaogcaaGreatP3
import Derived.KernelRfl
set_option linter.unusedVariables false
set_option linter.unusedSimpArgs false
set_option maxRecDepth 100000
set_option maxHeartbeats 32000000
namespace Go.Proofs.YtifdpllfbaogcaaGreat
open Go Go.RowKit B Tryz
variable {W : World} {F : Snap}
namespace Wir
theorem can34 : B.Can prog 34 := ⟨_, func34, by kernel_rfl, rfl⟩
theorem can35 : B.Can prog 35 := ⟨_, func35, by kernel_rfl, rfl⟩
theorem can36 : B.Can prog 36 := ⟨_, func36, by kernel_rfl, rfl⟩
theorem can79 : B.Can prog 79 := ⟨_, func79, by kernel_rfl, rfl⟩
theorem rdN_pl (l : List UInt8) (p : Nat) (e : Int) : (rdN l p e).2.1 ≤ p + 7 := by
 unfold rdN
 split
 ·exact Nat.le_add_right _ _
 ·split
  ·rename_i h
   show rnx l p ≤ _
   unfold rerr at h
   unfold rnx
   split at h
   ·cases h
   ·split at h
    ·cases h
    ·omega
  ·exact Nat.le_add_right _ _
theorem rdT_er {l : List UInt8} {p : Nat} {e : Int} (h : (rdN l p e).2.2 ≠ 0) : rdT l p e = ([], (rdN l p e).2.1, (rdN l p e).2.2) := by
 by_cases he : e = 0
 ·subst he
  by_cases hr : rerr l p = 0
  ·have hN : rdN l p 0 = (rval l p, rnx l p, 0) := by unfold rdN; rw [if_neg (by simp), if_pos hr]
   rw [hN] at h; exact absurd rfl h
  ·have hN : rdN l p 0 = (0, p, rerr l p) := by unfold rdN; rw [if_neg (by simp), if_neg hr]
   have hc : cerr l p 4096 = rerr l p := if_pos hr
   rw [hN]
   unfold rdT
   rw [if_neg (by simp), if_pos (by rw [hc]; exact hr), hc]
 ·have hN : rdN l p e = (0, p, e) := by unfold rdN; rw [if_pos he]
  rw [hN]
  unfold rdT
  rw [if_pos he]
theorem qtext_c {cs : List Res} (w : World) {i rb : Nat} {p : Nat} {l : List UInt8} {e : Int} (h : St W F cs w) (hi : cs[i]? = some [(rb, .cells #[.string (bs l), Vi p, Vi e] 87 (0, 0))]) (hl : l.length ≤ 9223372036854775807) (hp : p ≤ l.length ∧ p ≤ 90000) : Calls prog 35 #[.pointer (some ⟨rb, 0, none⟩)] w fun r w' => r = .returned (.string (bs (rdT l p e).1)) ∧ St W F (cs.set i [(rb, .cells #[.string (bs l), Vi ((rdT l p e).2.1 : Nat), Vi (rdT l p e).2.2] 87 (0, 0))]) w'  := by
 refine enter (args := [.pointer (some ⟨rb, 0, none⟩)]) func35 rfl rfl rfl<|Wi<|WL.e 1 rfl<|We<|WL.e 3 rfl<|C0 (I0 underlying3 rfl rfl (h.ocell hi rfl)) rfl<|WL.e 1 rfl<|We<|WL.e 1 rfl<|WL.cv can34 rfl rfl (qnum_c _ h hi hl hp) fun w1 h1 => ?_
 have hi1 : (cs.set i [(rb, .cells #[.string (bs l), Vi ((rdN l p e).2.1 : Nat), Vi (rdN l p e).2.2] 87 (0, 0))])[i]? = some [(rb, .cells #[.string (bs l), Vi ((rdN l p e).2.1 : Nat), Vi (rdN l p e).2.2] 87 (0, 0))] := by rw [List.getElem?_set_self (List.getElem?_eq_some_iff.1 hi).1]
 have hpn := rdN_le (l := l) (p := p) e hp.1
 have hpm := rdN_pl l p e
 have hbn := rdN_bnd l p e
 refine WL.e 1 rfl<|WL.nil (H0 (L0 (L0 ?_)))
 by_cases he : (rdN l p e).2.2 = 0
 ·have hok := num_rdN he
  have hrn := hok.2.2
  refine K0<|WL.e 3 rfl<|C0 (I0 underlying43 rfl rfl (h1.ocell hi1 rfl)) rfl<|C0 (Bf (Z1 rfl rfl) (by rw [decide_eq_true he]; rfl)) rfl<|Wa<|V0 rfl (rfl)<|O0 (H0 (L0 (L0 ?_)))
  have hcase : 4096 < rval l p ∨ rval l p ≤ 4096 := by omega
  rcases hcase with hm | hm
  ·skip
   refine K0<|WL.e 1 rfl<|C0 (Bt (X1 rfl rfl) (by rw [decide_eq_true_eq, hrn]; show (4096 : Int) < ((rval l p : Nat) : Int); omega)) rfl<|Wa<|B1 rfl (rfl)<|Wi<|WL.e 2 rfl<|WL.cv can79 rfl rfl (fail_c _ p 3 h1 hi1) fun w2 h2 => ?_
   rw [List.set_set] at h2
   refine We<|WL.e 1 rfl<|WL.nil (H0 (I1 ?_))
   have e1 : rdT l p e = ([], p, 3) := by
    unfold rdT cerr
    rw [if_neg (by rw [hok.1]; simp), hok.2.1, if_pos (by rw [if_neg (by simp), if_pos (by omega)]; decide), if_neg (by simp), if_pos (by omega)]
   rw [e1]
   exact ret1 rfl rfl ⟨rfl, h2⟩
  ·skip
   refine K0<|WL.e 1 rfl<|C0 (Bf (X1 rfl rfl) (by rw [decide_eq_false_iff_not, hrn]; show ¬ (4096 : Int) < ((rval l p : Nat) : Int); omega)) rfl<|Wa<|V0 rfl (rfl)<|O0 (H0 (L0 (L0 ?_)))
   have hrx := rnx_le hok.2.1
   have hcase : l.length < rnx l p + rval l p ∨ rnx l p + rval l p ≤ l.length := by omega
   rcases hcase with hn | hn
   ·skip
    refine I2 (C := fun w_ => St W _ _ w_) mixed (by kernel_rfl) (h1.drew)<|WQ.e 3 rfl<|WQ.val (fun w_ hC_ => I0 underlying3 rfl rfl (hC_.ocell hi1 rfl)) rfl<|WQ.e 1 rfl<|WQ.val (fun w_ hC_ => Q0 rfl rfl (by omega)) rfl<|WQ.e 3 rfl<|WQ.val (fun w_ hC_ => I0 underlying9 rfl rfl (hC_.ocell hi1 rfl)) rfl<|WQ.val (fun w_ hC_ => N0 (n := (l.length : Int)) (N2 underlying9 rfl rfl) rfl) rfl<|WQ.val (fun w_ hC_ => Bt (X1 rfl rfl) (by rw [decide_eq_true_eq, hrn]; show (l.length : Int) < ((rnx l p : Nat) : Int) + ((rval l p : Nat) : Int); omega)) rfl<|WQ.fin fun w3 h3=>H0<|B1 rfl (rfl)<|Wi<|WL.e 3 rfl<|F1 h3 i hi1 rfl rfl inf43 rfl rfl (Free.zero _) (Nat.le_of_ble_eq_true rfl) ?_
    intro  w4 h4
    try simp only [ZZ] at h4
    rw [List.set_set] at h4
    refine We<|WL.e 1 rfl<|WL.nil (H0 (I1 ?_))
    have hc0 : cerr l p 4096 = 0 := by unfold cerr; rw [if_neg (by rw [hok.2.1]; simp), if_neg (by omega)]
    have e1 : rdT l p e = ([], rnx l p, 2) := by
     unfold rdT
     rw [if_neg (by rw [hok.1]; simp), if_neg (by rw [hc0]; simp), if_pos hn]
    rw [e1]
    rw [hrn] at h4
    exact ret1 rfl rfl ⟨rfl, h4⟩
   ·skip
    refine I2 (C := fun w_ => St W _ _ w_) mixed (by kernel_rfl) (h1.drew)<|WQ.e 3 rfl<|WQ.val (fun w_ hC_ => I0 underlying3 rfl rfl (hC_.ocell hi1 rfl)) rfl<|WQ.e 1 rfl<|WQ.val (fun w_ hC_ => Q0 rfl rfl (by omega)) rfl<|WQ.e 3 rfl<|WQ.val (fun w_ hC_ => I0 underlying9 rfl rfl (hC_.ocell hi1 rfl)) rfl<|WQ.val (fun w_ hC_ => N0 (n := (l.length : Int)) (N2 underlying9 rfl rfl) rfl) rfl<|WQ.val (fun w_ hC_ => Bf (X1 rfl rfl) (by rw [decide_eq_false_iff_not, hrn]; show ¬ (l.length : Int) < ((rnx l p : Nat) : Int) + ((rval l p : Nat) : Int); omega)) rfl<|WQ.fin fun w5 h5=>H0<|V0 rfl (rfl)<|Wk<|WL.e 4 rfl<|C0 (I0 underlying3 rfl rfl (h5.ocell hi1 rfl)) rfl<|WL.e 1 rfl<|C0 (N0 (n := ((rnx l p + rval l p : Nat) : Int)) (Q0 rfl rfl (by omega)) (by rw [hrn]; show ((rnx l p : Nat) : Int) + ((rval l p : Nat) : Int) = _; omega)) rfl<|WL.e 2 rfl<|F1 h5 i hi1 rfl rfl inf3 rfl rfl (Free.zero _) (Nat.le_of_ble_eq_true rfl) ?_
    intro  w6 h6
    try simp only [ZZ] at h6
    rw [List.set_set] at h6
    have hi2 : (cs.set i [(rb, .cells #[.string (bs l), Vi ((rnx l p + rval l p : Nat) : Int), Vi (rdN l p e).2.2] 87 (0, 0))])[i]? = some [(rb, .cells #[.string (bs l), Vi ((rnx l p + rval l p : Nat) : Int), Vi (rdN l p e).2.2] 87 (0, 0))] := by rw [List.getElem?_set_self (List.getElem?_eq_some_iff.1 hi).1]
    refine Wb<|I2 (C := fun w_ => St W _ _ w_) mixed (by kernel_rfl) (h6.drew)<|WQ.e 3 rfl<|WQ.val (fun w_ hC_ => I0 underlying9 rfl rfl (hC_.ocell hi2 rfl)) rfl<|WQ.e 3 rfl<|WQ.val (fun w_ hC_ => I0 underlying3 rfl rfl (hC_.ocell hi2 rfl)) rfl<|WQ.e 1 rfl<|WQ.val (fun w_ hC_ => N0 (n := ((rnx l p : Nat) : Int)) (W2 rfl rfl (by rw [hrn]; show _ ≤ ((rnx l p + rval l p : Nat) : Int) - ((rval l p : Nat) : Int) ∧ ((rnx l p + rval l p : Nat) : Int) - ((rval l p : Nat) : Int) ≤ _; omega)) (by rw [hrn]; show ((rnx l p + rval l p : Nat) : Int) - ((rval l p : Nat) : Int) = _; omega)) rfl<|WQ.e 3 rfl<|WQ.val (fun w_ hC_ => I0 underlying3 rfl rfl (hC_.ocell hi2 rfl)) rfl<|WQ.val (fun w_ hC_ => L1 (u := .string (bs ((l.drop (rnx l p)).take (rval l p)))) (Runs.lssl underlying9 rfl rfl rfl (n := rnx l p) (m := rnx l p + rval l p) rfl rfl (by omega) (by omega)) (by rw [show rnx l p + rval l p - rnx l p = rval l p by omega])) rfl<|WQ.e 1 rfl<|WQ.fin fun w7 h7=>H0 (I1 ?_)
    have hc0 : cerr l p 4096 = 0 := by unfold cerr; rw [if_neg (by rw [hok.2.1]; simp), if_neg (by omega)]
    have e1 : rdT l p e = ((l.drop (rnx l p)).take (rval l p), rnx l p + rval l p, 0) := by
     unfold rdT
     rw [if_neg (by rw [hok.1]; simp), if_neg (by rw [hc0]; simp), if_neg (by omega)]
    rw [e1]
    rw [hrn] at h7
    exact ret1 rfl rfl ⟨rfl, h7⟩
 ·skip
  refine K0<|WL.e 3 rfl<|C0 (I0 underlying43 rfl rfl (h1.ocell hi1 rfl)) rfl<|C0 (Bt (Z1 rfl rfl) (by rw [decide_eq_false he]; rfl)) rfl<|Wa<|B1 rfl (rfl)<|Wi<|WL.e 1 rfl<|WL.nil (H0 (I1 ?_))
  have e1 : rdT l p e = ([], (rdN l p e).2.1, (rdN l p e).2.2) := rdT_er he
  rw [e1]
  exact ret1 rfl rfl ⟨rfl, h1⟩
theorem qdec_c {cs : List Res} (w : World) (l : List UInt8) (h : St W F cs w) (hl : l.length ≤ 9223372036854775807) : Calls prog 15 #[.string (bs l)] w fun r w' => r = .returned (.tuple #[(decB l).1.val, Vi (decB l).2]) ∧ St W F cs w'  := by
 refine enter (args := [.string (bs l)]) func15 rfl rfl rfl<|Wi<|O1 rfl h inf42 fun b2 w1 h1=>WL.e 1 rfl<|We<|WL.e 1 rfl<|C0 (B2 (vs := [(0, .string (bs l))]) (cells := #[.string (bs l), Vi 0, Vi 0]) rfl (by kernel_rfl)) rfl<|WL.box rfl h1 rfl fun b10 w2 h2=>WL.e 1 rfl<|We<|C0 (B2 (vs := []) (cells := #[Vi 0, Vi 0, Vi 0, Vi 0, Vi 0, Vi 0, Vi 0, .string ⟨#[]⟩]) rfl (by kernel_rfl)) rfl<|O1 rfl h2 inf42 fun b5 w3 h3=>M1 h3 0 rfl rfl rfl inf42 rfl rfl rfl (Free.zero _) ?_
 intro  w4 h4
 try simp only [ZZ] at h4
 refine We<|WL.e 1 rfl<|WL.cv can34 rfl rfl (qnum_c _ (p := 0) (e := 0) h4 (i := 1) rfl hl (by omega)) fun w5 h5 => ?_
 replace h5 : St W F ([(b5, .cells #[Vi 0, Vi 0, Vi 0, Vi 0, Vi 0, Vi 0, Vi 0, .string ⟨#[]⟩] 42 (0, 0))] :: [(b10, .cells #[.string (bs l), Vi (((D0 l).2.1 : Nat)), Vi ((D0 l).2.2)] 87 (0, 0))] :: [(b2, .cells #[Vi 0, Vi 0, Vi 0, Vi 0, Vi 0, Vi 0, Vi 0, .string ⟨#[]⟩] 42 (0, 0))] :: cs) w5 := h5
 have hg0 : (D0 l).2.1 ≤ 7 := Nat.le_trans (rdN_pl l 0 0) (by omega)
 have hp0 : (D0 l).2.1 ≤ l.length ∧ (D0 l).2.1 ≤ 90000 := ⟨rdN_le _ (by omega), by omega⟩
 have hb0 : (D0 l).1 ≤ 1099511627776 := rdN_bnd _ _ _
 refine WL.e 1 rfl<|F1 h5 0 rfl rfl rfl inf3 rfl rfl (Free.zero _) (Nat.le_of_ble_eq_true rfl) ?_
 intro  w6 h6
 try simp only [ZZ] at h6
 replace h6 : St W F ([(b5, .cells #[Vi ((D0 l).1 : Nat), Vi 0, Vi 0, Vi 0, Vi 0, Vi 0, Vi 0, .string ⟨#[]⟩] 42 (0, 0))] :: [(b10, .cells #[.string (bs l), Vi (((D0 l).2.1 : Nat)), Vi ((D0 l).2.2)] 87 (0, 0))] :: [(b2, .cells #[Vi 0, Vi 0, Vi 0, Vi 0, Vi 0, Vi 0, Vi 0, .string ⟨#[]⟩] 42 (0, 0))] :: cs) w6 := h6
 refine We<|WL.e 1 rfl<|WL.cv can34 rfl rfl (qnum_c _ (p := (D0 l).2.1) (e := (D0 l).2.2) h6 (i := 1) rfl hl hp0) fun w7 h7 => ?_
 replace h7 : St W F ([(b5, .cells #[Vi ((D0 l).1 : Nat), Vi 0, Vi 0, Vi 0, Vi 0, Vi 0, Vi 0, .string ⟨#[]⟩] 42 (0, 0))] :: [(b10, .cells #[.string (bs l), Vi (((D1 l).2.1 : Nat)), Vi ((D1 l).2.2)] 87 (0, 0))] :: [(b2, .cells #[Vi 0, Vi 0, Vi 0, Vi 0, Vi 0, Vi 0, Vi 0, .string ⟨#[]⟩] 42 (0, 0))] :: cs) w7 := h7
 have hg1 : (D1 l).2.1 ≤ 14 := Nat.le_trans (rdN_pl l (D0 l).2.1 (D0 l).2.2) (by omega)
 have hp1 : (D1 l).2.1 ≤ l.length ∧ (D1 l).2.1 ≤ 90000 := ⟨rdN_le _ hp0.1, by omega⟩
 have hb1 : (D1 l).1 ≤ 1099511627776 := rdN_bnd _ _ _
 refine C0 (W2 (m := ((D1 l).1 : Int)) rfl rfl (by omega)) rfl<|WL.e 1 rfl<|F1 h7 0 rfl rfl rfl inf3 rfl rfl (Free.zero _) (Nat.le_of_ble_eq_true rfl) ?_
 intro  w8 h8
 try simp only [ZZ] at h8
 replace h8 : St W F ([(b5, .cells #[Vi ((D0 l).1 : Nat), Vi (((D1 l).1 : Int) - 1), Vi 0, Vi 0, Vi 0, Vi 0, Vi 0, .string ⟨#[]⟩] 42 (0, 0))] :: [(b10, .cells #[.string (bs l), Vi (((D1 l).2.1 : Nat)), Vi ((D1 l).2.2)] 87 (0, 0))] :: [(b2, .cells #[Vi 0, Vi 0, Vi 0, Vi 0, Vi 0, Vi 0, Vi 0, .string ⟨#[]⟩] 42 (0, 0))] :: cs) w8 := h8
 refine We<|WL.e 1 rfl<|WL.cv can34 rfl rfl (qnum_c _ (p := (D1 l).2.1) (e := (D1 l).2.2) h8 (i := 1) rfl hl hp1) fun w9 h9 => ?_
 replace h9 : St W F ([(b5, .cells #[Vi ((D0 l).1 : Nat), Vi (((D1 l).1 : Int) - 1), Vi 0, Vi 0, Vi 0, Vi 0, Vi 0, .string ⟨#[]⟩] 42 (0, 0))] :: [(b10, .cells #[.string (bs l), Vi (((D2 l).2.1 : Nat)), Vi ((D2 l).2.2)] 87 (0, 0))] :: [(b2, .cells #[Vi 0, Vi 0, Vi 0, Vi 0, Vi 0, Vi 0, Vi 0, .string ⟨#[]⟩] 42 (0, 0))] :: cs) w9 := h9
 have hg2 : (D2 l).2.1 ≤ 21 := Nat.le_trans (rdN_pl l (D1 l).2.1 (D1 l).2.2) (by omega)
 have hp2 : (D2 l).2.1 ≤ l.length ∧ (D2 l).2.1 ≤ 90000 := ⟨rdN_le _ hp1.1, by omega⟩
 have hb2 : (D2 l).1 ≤ 1099511627776 := rdN_bnd _ _ _
 refine C0 (W2 (m := ((D2 l).1 : Int)) rfl rfl (by omega)) rfl<|WL.e 1 rfl<|F1 h9 0 rfl rfl rfl inf3 rfl rfl (Free.zero _) (Nat.le_of_ble_eq_true rfl) ?_
 intro  w10 h10
 try simp only [ZZ] at h10
 replace h10 : St W F ([(b5, .cells #[Vi ((D0 l).1 : Nat), Vi (((D1 l).1 : Int) - 1), Vi (((D2 l).1 : Int) - 1), Vi 0, Vi 0, Vi 0, Vi 0, .string ⟨#[]⟩] 42 (0, 0))] :: [(b10, .cells #[.string (bs l), Vi (((D2 l).2.1 : Nat)), Vi ((D2 l).2.2)] 87 (0, 0))] :: [(b2, .cells #[Vi 0, Vi 0, Vi 0, Vi 0, Vi 0, Vi 0, Vi 0, .string ⟨#[]⟩] 42 (0, 0))] :: cs) w10 := h10
 refine We<|WL.e 1 rfl<|WL.cv can34 rfl rfl (qnum_c _ (p := (D2 l).2.1) (e := (D2 l).2.2) h10 (i := 1) rfl hl hp2) fun w11 h11 => ?_
 replace h11 : St W F ([(b5, .cells #[Vi ((D0 l).1 : Nat), Vi (((D1 l).1 : Int) - 1), Vi (((D2 l).1 : Int) - 1), Vi 0, Vi 0, Vi 0, Vi 0, .string ⟨#[]⟩] 42 (0, 0))] :: [(b10, .cells #[.string (bs l), Vi (((D3 l).2.1 : Nat)), Vi ((D3 l).2.2)] 87 (0, 0))] :: [(b2, .cells #[Vi 0, Vi 0, Vi 0, Vi 0, Vi 0, Vi 0, Vi 0, .string ⟨#[]⟩] 42 (0, 0))] :: cs) w11 := h11
 have hg3 : (D3 l).2.1 ≤ 28 := Nat.le_trans (rdN_pl l (D2 l).2.1 (D2 l).2.2) (by omega)
 have hp3 : (D3 l).2.1 ≤ l.length ∧ (D3 l).2.1 ≤ 90000 := ⟨rdN_le _ hp2.1, by omega⟩
 have hb3 : (D3 l).1 ≤ 1099511627776 := rdN_bnd _ _ _
 refine WL.e 1 rfl<|F1 h11 0 rfl rfl rfl inf3 rfl rfl (Free.zero _) (Nat.le_of_ble_eq_true rfl) ?_
 intro  w12 h12
 try simp only [ZZ] at h12
 replace h12 : St W F ([(b5, .cells #[Vi ((D0 l).1 : Nat), Vi (((D1 l).1 : Int) - 1), Vi (((D2 l).1 : Int) - 1), Vi ((D3 l).1 : Nat), Vi 0, Vi 0, Vi 0, .string ⟨#[]⟩] 42 (0, 0))] :: [(b10, .cells #[.string (bs l), Vi (((D3 l).2.1 : Nat)), Vi ((D3 l).2.2)] 87 (0, 0))] :: [(b2, .cells #[Vi 0, Vi 0, Vi 0, Vi 0, Vi 0, Vi 0, Vi 0, .string ⟨#[]⟩] 42 (0, 0))] :: cs) w12 := h12
 refine We<|WL.e 1 rfl<|WL.cv can34 rfl rfl (qnum_c _ (p := (D3 l).2.1) (e := (D3 l).2.2) h12 (i := 1) rfl hl hp3) fun w13 h13 => ?_
 replace h13 : St W F ([(b5, .cells #[Vi ((D0 l).1 : Nat), Vi (((D1 l).1 : Int) - 1), Vi (((D2 l).1 : Int) - 1), Vi ((D3 l).1 : Nat), Vi 0, Vi 0, Vi 0, .string ⟨#[]⟩] 42 (0, 0))] :: [(b10, .cells #[.string (bs l), Vi (((D4 l).2.1 : Nat)), Vi ((D4 l).2.2)] 87 (0, 0))] :: [(b2, .cells #[Vi 0, Vi 0, Vi 0, Vi 0, Vi 0, Vi 0, Vi 0, .string ⟨#[]⟩] 42 (0, 0))] :: cs) w13 := h13
 have hg4 : (D4 l).2.1 ≤ 35 := Nat.le_trans (rdN_pl l (D3 l).2.1 (D3 l).2.2) (by omega)
 have hp4 : (D4 l).2.1 ≤ l.length ∧ (D4 l).2.1 ≤ 90000 := ⟨rdN_le _ hp3.1, by omega⟩
 have hb4 : (D4 l).1 ≤ 1099511627776 := rdN_bnd _ _ _
 refine WL.e 1 rfl<|F1 h13 0 rfl rfl rfl inf3 rfl rfl (Free.zero _) (Nat.le_of_ble_eq_true rfl) ?_
 intro  w14 h14
 try simp only [ZZ] at h14
 replace h14 : St W F ([(b5, .cells #[Vi ((D0 l).1 : Nat), Vi (((D1 l).1 : Int) - 1), Vi (((D2 l).1 : Int) - 1), Vi ((D3 l).1 : Nat), Vi ((D4 l).1 : Nat), Vi 0, Vi 0, .string ⟨#[]⟩] 42 (0, 0))] :: [(b10, .cells #[.string (bs l), Vi (((D4 l).2.1 : Nat)), Vi ((D4 l).2.2)] 87 (0, 0))] :: [(b2, .cells #[Vi 0, Vi 0, Vi 0, Vi 0, Vi 0, Vi 0, Vi 0, .string ⟨#[]⟩] 42 (0, 0))] :: cs) w14 := h14
 refine We<|WL.e 1 rfl<|WL.cv can34 rfl rfl (qnum_c _ (p := (D4 l).2.1) (e := (D4 l).2.2) h14 (i := 1) rfl hl hp4) fun w15 h15 => ?_
 replace h15 : St W F ([(b5, .cells #[Vi ((D0 l).1 : Nat), Vi (((D1 l).1 : Int) - 1), Vi (((D2 l).1 : Int) - 1), Vi ((D3 l).1 : Nat), Vi ((D4 l).1 : Nat), Vi 0, Vi 0, .string ⟨#[]⟩] 42 (0, 0))] :: [(b10, .cells #[.string (bs l), Vi (((D5 l).2.1 : Nat)), Vi ((D5 l).2.2)] 87 (0, 0))] :: [(b2, .cells #[Vi 0, Vi 0, Vi 0, Vi 0, Vi 0, Vi 0, Vi 0, .string ⟨#[]⟩] 42 (0, 0))] :: cs) w15 := h15
 have hg5 : (D5 l).2.1 ≤ 42 := Nat.le_trans (rdN_pl l (D4 l).2.1 (D4 l).2.2) (by omega)
 have hp5 : (D5 l).2.1 ≤ l.length ∧ (D5 l).2.1 ≤ 90000 := ⟨rdN_le _ hp4.1, by omega⟩
 have hb5 : (D5 l).1 ≤ 1099511627776 := rdN_bnd _ _ _
 refine WL.e 1 rfl<|F1 h15 0 rfl rfl rfl inf3 rfl rfl (Free.zero _) (Nat.le_of_ble_eq_true rfl) ?_
 intro  w16 h16
 try simp only [ZZ] at h16
 replace h16 : St W F ([(b5, .cells #[Vi ((D0 l).1 : Nat), Vi (((D1 l).1 : Int) - 1), Vi (((D2 l).1 : Int) - 1), Vi ((D3 l).1 : Nat), Vi ((D4 l).1 : Nat), Vi ((D5 l).1 : Nat), Vi 0, .string ⟨#[]⟩] 42 (0, 0))] :: [(b10, .cells #[.string (bs l), Vi (((D5 l).2.1 : Nat)), Vi ((D5 l).2.2)] 87 (0, 0))] :: [(b2, .cells #[Vi 0, Vi 0, Vi 0, Vi 0, Vi 0, Vi 0, Vi 0, .string ⟨#[]⟩] 42 (0, 0))] :: cs) w16 := h16
 refine We<|WL.e 1 rfl<|WL.cv can34 rfl rfl (qnum_c _ (p := (D5 l).2.1) (e := (D5 l).2.2) h16 (i := 1) rfl hl hp5) fun w17 h17 => ?_
 replace h17 : St W F ([(b5, .cells #[Vi ((D0 l).1 : Nat), Vi (((D1 l).1 : Int) - 1), Vi (((D2 l).1 : Int) - 1), Vi ((D3 l).1 : Nat), Vi ((D4 l).1 : Nat), Vi ((D5 l).1 : Nat), Vi 0, .string ⟨#[]⟩] 42 (0, 0))] :: [(b10, .cells #[.string (bs l), Vi (((D6 l).2.1 : Nat)), Vi ((D6 l).2.2)] 87 (0, 0))] :: [(b2, .cells #[Vi 0, Vi 0, Vi 0, Vi 0, Vi 0, Vi 0, Vi 0, .string ⟨#[]⟩] 42 (0, 0))] :: cs) w17 := h17
 have hg6 : (D6 l).2.1 ≤ 49 := Nat.le_trans (rdN_pl l (D5 l).2.1 (D5 l).2.2) (by omega)
 have hp6 : (D6 l).2.1 ≤ l.length ∧ (D6 l).2.1 ≤ 90000 := ⟨rdN_le _ hp5.1, by omega⟩
 have hb6 : (D6 l).1 ≤ 1099511627776 := rdN_bnd _ _ _
 refine WL.e 1 rfl<|F1 h17 0 rfl rfl rfl inf3 rfl rfl (Free.zero _) (Nat.le_of_ble_eq_true rfl) ?_
 intro  w18 h18
 try simp only [ZZ] at h18
 replace h18 : St W F ([(b5, .cells #[Vi ((D0 l).1 : Nat), Vi (((D1 l).1 : Int) - 1), Vi (((D2 l).1 : Int) - 1), Vi ((D3 l).1 : Nat), Vi ((D4 l).1 : Nat), Vi ((D5 l).1 : Nat), Vi ((D6 l).1 : Nat), .string ⟨#[]⟩] 42 (0, 0))] :: [(b10, .cells #[.string (bs l), Vi (((D6 l).2.1 : Nat)), Vi ((D6 l).2.2)] 87 (0, 0))] :: [(b2, .cells #[Vi 0, Vi 0, Vi 0, Vi 0, Vi 0, Vi 0, Vi 0, .string ⟨#[]⟩] 42 (0, 0))] :: cs) w18 := h18
 refine We<|WL.e 1 rfl<|WL.cv can35 rfl rfl (qtext_c _ (p := (D6 l).2.1) (e := (D6 l).2.2) h18 (i := 1) rfl hl hp6) fun w19 h19 => ?_
 replace h19 : St W F ([(b5, .cells #[Vi ((D0 l).1 : Nat), Vi (((D1 l).1 : Int) - 1), Vi (((D2 l).1 : Int) - 1), Vi ((D3 l).1 : Nat), Vi ((D4 l).1 : Nat), Vi ((D5 l).1 : Nat), Vi ((D6 l).1 : Nat), .string ⟨#[]⟩] 42 (0, 0))] :: [(b10, .cells #[.string (bs l), Vi (((DT l).2.1 : Nat)), Vi ((DT l).2.2)] 87 (0, 0))] :: [(b2, .cells #[Vi 0, Vi 0, Vi 0, Vi 0, Vi 0, Vi 0, Vi 0, .string ⟨#[]⟩] 42 (0, 0))] :: cs) w19 := h19
 refine WL.e 1 rfl<|F1 h19 0 rfl rfl rfl inf9 rfl rfl (Free.zero _) (Nat.le_of_ble_eq_true rfl) ?_
 intro  w20 h20
 try simp only [ZZ] at h20
 replace h20 : St W F ([(b5, .cells #[Vi ((D0 l).1 : Nat), Vi (((D1 l).1 : Int) - 1), Vi (((D2 l).1 : Int) - 1), Vi ((D3 l).1 : Nat), Vi ((D4 l).1 : Nat), Vi ((D5 l).1 : Nat), Vi ((D6 l).1 : Nat), .string (bs (DT l).1)] 42 (0, 0))] :: [(b10, .cells #[.string (bs l), Vi (((DT l).2.1 : Nat)), Vi ((DT l).2.2)] 87 (0, 0))] :: [(b2, .cells #[Vi 0, Vi 0, Vi 0, Vi 0, Vi 0, Vi 0, Vi 0, .string ⟨#[]⟩] 42 (0, 0))] :: cs) w20 := h20
 refine We<|WL.e 1 rfl<|WL.cv can36 rfl rfl (qend_c _ (p := (DT l).2.1) (e := (DT l).2.2) h20 (i := 1) rfl) fun w21 h21 =>WL.e 5 rfl<|WL.nil (H0 (L0 (L0 ?_)))
 by_cases hde : decE l = 0
 ·skip
  refine K0<|WL.e 1 rfl<|C0 (Bf (Z1 rfl rfl) (by show (!decide (decE l = 0)) = false; rw [decide_eq_true hde]; rfl)) rfl<|Wa<|V0 rfl (rfl)<|O0 (H0 (L0 (L0 ?_)))
  by_cases hmy : mayM (decM l)
  ·skip
   refine K0<|C0 (E2 h21 0 rfl underlying42 rfl inf42 rfl rfl) rfl<|WL.cv can37 rfl rfl (rmay_c _ (decM l) h21) fun w22 h22 =>WL.e 1 rfl<|Wa<|V0 rfl ((by rw [decide_eq_true hmy]; rfl))<|Wk<|C0 (E2 h22 0 rfl underlying42 rfl inf42 rfl rfl) rfl<|M1 h22 2 rfl rfl rfl inf42 rfl rfl rfl (Free.zero _) ?_
   intro  w23 h23
   try simp only [ZZ] at h23
   refine WL.e 1 rfl<|Wg<|retB rfl (v := .agg #[Vi ((D0 l).1 : Nat), Vi (((D1 l).1 : Int) - 1), Vi (((D2 l).1 : Int) - 1), Vi ((D3 l).1 : Nat), Vi ((D4 l).1 : Nat), Vi ((D5 l).1 : Nat), Vi ((D6 l).1 : Nat), .string (bs (DT l).1)]) ⟨_, rfl, run_loadVarA (vs := [Vi ((D0 l).1 : Nat), Vi (((D1 l).1 : Int) - 1), Vi (((D2 l).1 : Int) - 1), Vi ((D3 l).1 : Nat), Vi ((D4 l).1 : Nat), Vi ((D5 l).1 : Nat), Vi ((D6 l).1 : Nat), .string (bs (DT l).1)]) underlying42 rfl inf42 rfl (fun j v hv => by rw [add_mk, Nat.zero_add]; exact h23.ocell (i := 2) rfl (by simpa using hv))⟩ (show lk _ _ = _ from rfl) ⟨by unfold decB; rw [if_neg (by rw [hde]; simp), if_pos hmy]; rfl, ((h23.drop 0).drop 0).drop 0⟩
  ·skip
   refine K0<|C0 (E2 h21 0 rfl underlying42 rfl inf42 rfl rfl) rfl<|WL.cv can37 rfl rfl (rmay_c _ (decM l) h21) fun w24 h24 =>WL.e 1 rfl<|Wa<|B1 rfl ((by rw [decide_eq_false hmy]; rfl))<|Wi<|C0 (B2 (vs := []) (cells := #[Vi 0, Vi 0, Vi 0, Vi 0, Vi 0, Vi 0, Vi 0, .string ⟨#[]⟩]) rfl (by kernel_rfl)) rfl<|M1 h24 2 rfl rfl rfl inf42 rfl rfl rfl (Free.zero _) ?_
   intro  w25 h25
   try simp only [ZZ] at h25
   refine WL.e 1 rfl<|Wg<|retB rfl (v := .agg #[Vi 0, Vi 0, Vi 0, Vi 0, Vi 0, Vi 0, Vi 0, .string ⟨#[]⟩]) ⟨_, rfl, run_loadVarA (vs := [Vi 0, Vi 0, Vi 0, Vi 0, Vi 0, Vi 0, Vi 0, .string ⟨#[]⟩]) underlying42 rfl inf42 rfl (fun j v hv => by rw [add_mk, Nat.zero_add]; exact h25.ocell (i := 2) rfl (by simpa using hv))⟩ (show lk _ _ = _ from rfl) ⟨by unfold decB; rw [if_neg (by rw [hde]; simp), if_neg hmy]; rfl, ((h25.drop 0).drop 0).drop 0⟩
 ·skip
  refine K0<|WL.e 1 rfl<|C0 (Bt (Z1 rfl rfl) (by show (!decide (decE l = 0)) = true; rw [decide_eq_false hde]; rfl)) rfl<|Wa<|B1 rfl (rfl)<|Wi<|C0 (B2 (vs := []) (cells := #[Vi 0, Vi 0, Vi 0, Vi 0, Vi 0, Vi 0, Vi 0, .string ⟨#[]⟩]) rfl (by kernel_rfl)) rfl<|WL.e 1 rfl<|M1 h21 2 rfl rfl rfl inf42 rfl rfl rfl (Free.zero _) ?_
  intro  w26 h26
  try simp only [ZZ] at h26
  refine WL.e 1 rfl<|Wg<|retB rfl (v := .agg #[Vi 0, Vi 0, Vi 0, Vi 0, Vi 0, Vi 0, Vi 0, .string ⟨#[]⟩]) ⟨_, rfl, run_loadVarA (vs := [Vi 0, Vi 0, Vi 0, Vi 0, Vi 0, Vi 0, Vi 0, .string ⟨#[]⟩]) underlying42 rfl inf42 rfl (fun j v hv => by rw [add_mk, Nat.zero_add]; exact h26.ocell (i := 2) rfl (by simpa using hv))⟩ (show lk _ _ = _ from rfl) ⟨by unfold decB; rw [if_pos hde]; rfl, ((h26.drop 0).drop 0).drop 0⟩
def rdn (l : List UInt8) : Nat → Nat → List Int → List Int × Nat × Int
 |0, q, acc => (acc, q, 0)
 |n + 1, q, acc => if rerr l q = 0 then rdn l n (rnx l q) (acc ++ [(rval l q : Int)]) else ([], q, rerr l q)
def rdL (l : List UInt8) (p : Nat) (e m : Int) : List Int × Nat × Int := if e ≠ 0 then ([], p, e) else if cerr l p m ≠ 0 then ([], p, cerr l p m) else rdn l (rval l p) (rnx l p) []
end Wir
namespace ShaM
abbrev Wd := BitVec 32
def rotr (x : Wd) (n : Nat) : Wd := (x >>> n) ||| (x <<< (32 - n))
def K : List Wd := [
 0x428a2f98, 0x71374491, 0xb5c0fbcf, 0xe9b5dba5, 0x3956c25b, 0x59f111f1, 0x923f82a4, 0xab1c5ed5,
 0xd807aa98, 0x12835b01, 0x243185be, 0x550c7dc3, 0x72be5d74, 0x80deb1fe, 0x9bdc06a7, 0xc19bf174,
 0xe49b69c1, 0xefbe4786, 0x0fc19dc6, 0x240ca1cc, 0x2de92c6f, 0x4a7484aa, 0x5cb0a9dc, 0x76f988da,
 0x983e5152, 0xa831c66d, 0xb00327c8, 0xbf597fc7, 0xc6e00bf3, 0xd5a79147, 0x06ca6351, 0x14292967,
 0x27b70a85, 0x2e1b2138, 0x4d2c6dfc, 0x53380d13, 0x650a7354, 0x766a0abb, 0x81c2c92e, 0x92722c85,
 0xa2bfe8a1, 0xa81a664b, 0xc24b8b70, 0xc76c51a3, 0xd192e819, 0xd6990624, 0xf40e3585, 0x106aa070,
 0x19a4c116, 0x1e376c08, 0x2748774c, 0x34b0bcb5, 0x391c0cb3, 0x4ed8aa4a, 0x5b9cca4f, 0x682e6ff3,
 0x748f82ee, 0x78a5636f, 0x84c87814, 0x8cc70208, 0x90befffa, 0xa4506ceb, 0xbef9a3f7, 0xc67178f2]
def by4 (a b c d : UInt8) : Wd := (((BitVec.ofNat 32 a.toNat <<< 24) ||| (BitVec.ofNat 32 b.toNat <<< 16)) ||| (BitVec.ofNat 32 c.toNat <<< 8)) ||| BitVec.ofNat 32 d.toNat
def w0 (b : List UInt8) (i : Nat) : Wd := by4 (b.getD (4 * i) 0) (b.getD (4 * i + 1) 0) (b.getD (4 * i + 2) 0) (b.getD (4 * i + 3) 0)
def firsts (b : List UInt8) (n : Nat) : List Wd := (List.range n).map (w0 b)
def s0 (y : Wd) : Wd := rotr y 7 ^^^ rotr y 18 ^^^ (y >>> 3)
def s1 (z : Wd) : Wd := rotr z 17 ^^^ rotr z 19 ^^^ (z >>> 10)
def ext (w : List Wd) : Wd := w.getD (w.length - 16) 0 + s0 (w.getD (w.length - 15) 0) + w.getD (w.length - 7) 0 + s1 (w.getD (w.length - 2) 0)
def grow : Nat → List Wd → List Wd
 |0, w => w
 |n + 1, w => grow n w ++ [ext (grow n w)]
def sched (b : List UInt8) : List Wd := grow 48 (firsts b 16)
theorem grow_len : ∀ (n : Nat) (w : List Wd), (grow n w).length = w.length + n
 |0, w => rfl
 |n + 1, w => by simp [grow, grow_len n]; omega
theorem firsts_len (b : List UInt8) (n : Nat) : (firsts b n).length = n := by simp [firsts]
theorem firsts_succ (b : List UInt8) (n : Nat) : firsts b (n + 1) = firsts b n ++ [w0 b n] := by simp [firsts, List.range_succ]
theorem sched_len (b : List UInt8) : (sched b).length = 64 := by simp [sched, grow_len, firsts_len]
structure D8 where
 a : Wd
 b : Wd
 c : Wd
 d : Wd
 e : Wd
 f : Wd
 g : Wd
 h : Wd
def D8.list (v : D8) : List Wd := [v.a, v.b, v.c, v.d, v.e, v.f, v.g, v.h]
def D8.of (l : List Wd) : D8 := ⟨l.getD 0 0, l.getD 1 0, l.getD 2 0, l.getD 3 0, l.getD 4 0, l.getD 5 0, l.getD 6 0, l.getD 7 0⟩
def first : D8 := ⟨0x6a09e667, 0xbb67ae85, 0x3c6ef372, 0xa54ff53a, 0x510e527f, 0x9b05688c, 0x1f83d9ab, 0x5be0cd19⟩
def tt (k w : Wd) (v : D8) : Wd := v.h + (rotr v.e 6 ^^^ rotr v.e 11 ^^^ rotr v.e 25) + ((v.e &&& v.f) ^^^ (~~~v.e &&& v.g)) + k + w
def uu (v : D8) : Wd := (rotr v.a 2 ^^^ rotr v.a 13 ^^^ rotr v.a 22) + ((v.a &&& v.b) ^^^ (v.a &&& v.c) ^^^ (v.b &&& v.c))
def rnd (k w : Wd) (v : D8) : D8 := ⟨tt k w v + uu v, v.a, v.b, v.c, v.d + tt k w v, v.e, v.f, v.g⟩
def rounds (ws : List Wd) : Nat → D8 → D8
 |0, v => v
 |n + 1, v => rnd (K.getD n 0) (ws.getD n 0) (rounds ws n v)
def part (d v : D8) (i : Nat) : List Wd := (List.zipWith (· + ·) d.list v.list).take i ++ d.list.drop i
def block (d : D8) (b : List UInt8) : D8 := D8.of (part d (rounds (sched b) 64 d) 8)
def blocks : Nat → D8 → List UInt8 → D8
 |0, d, _ => d
 |n + 1, d, b => blocks n (block d (b.take 64)) (b.drop 64)
def pads (n : Nat) : Nat := (119 - n % 64) % 64
def lenb (n : Nat) (i : Nat) : List UInt8 := (List.range i).map fun j => UInt8.ofNat (8 * n / 2 ^ (56 - 8 * j))
def pad (s : List UInt8) : List UInt8 := s ++ [0x80] ++ List.replicate (pads s.length) 0 ++ lenb s.length 8
def out4 (x : Wd) : List UInt8 := [UInt8.ofNat (x >>> 24).toNat, UInt8.ofNat (x >>> 16).toNat, UInt8.ofNat (x >>> 8).toNat, UInt8.ofNat x.toNat]
def of (s : List UInt8) : List UInt8 := (blocks ((pad s).length / 64) first (pad s)).list.flatMap out4
def padded (key : List UInt8) (by_ : UInt8) : List UInt8 := (List.range 64).map fun i => (key.getD i 0) ^^^ by_
def hmac (key s : List UInt8) : List UInt8 :=
 let key := if key.length > 64 then of key else key
 of (padded key 0x5c ++ of (padded key 0x36 ++ s))
theorem part_len (d v : D8) {i : Nat} (hi : i ≤ 8) : (part d v i).length = 8 := by
 simp [part, D8.list]; omega
theorem D8.list_of {l : List Wd} (h : l.length = 8) : (D8.of l).list = l := by
 match l, h with
 |[a, b, c, d, e, f, g, h], _ => rfl
theorem part_at (d v : D8) {i : Nat} (hi : i < 8) : (part d v i).getD i 0 = d.list.getD i 0 := by
 have : i = 0 ∨ i = 1 ∨ i = 2 ∨ i = 3 ∨ i = 4 ∨ i = 5 ∨ i = 6 ∨ i = 7 := by omega
 rcases this with rfl | rfl | rfl | rfl | rfl | rfl | rfl | rfl <;> rfl
theorem part_set (d v : D8) {i : Nat} (hi : i < 8) : (part d v i).set i (d.list.getD i 0 + v.list.getD i 0) = part d v (i + 1) := by
 have : i = 0 ∨ i = 1 ∨ i = 2 ∨ i = 3 ∨ i = 4 ∨ i = 5 ∨ i = 6 ∨ i = 7 := by omega
 rcases this with rfl | rfl | rfl | rfl | rfl | rfl | rfl | rfl <;> rfl
end ShaM
open ShaM (rotr Wd D8)
namespace ShaR
def S0 (x : Wd) : Wd := rotr x 2 ^^^ rotr x 13 ^^^ rotr x 22
def ch (e f g : Wd) : Wd := (e &&& f) ^^^ (~~~e &&& g)
end ShaR
namespace Sha
theorem mixed : prog.follows .mixedOrders = true := by kernel_rfl
theorem inf216 : Inf prog 216 (.agg #[.int .u32 0, .int .u32 0, .int .u32 0, .int .u32 0, .int .u32 0, .int .u32 0, .int .u32 0, .int .u32 0]) 8 32 := by unfold Inf; kernel_rfl
theorem inf222 : Inf prog 222 (.agg (List.replicate 64 (.int .u32 0)).toArray) 64 256 := by unfold Inf; kernel_rfl
theorem set_first {α : Type} (pre : List α) (z v : α) (n : Nat) (h : pre.length < n) : (pre ++ List.replicate (n - pre.length) z).set pre.length v = pre ++ [v] ++ List.replicate (n - (pre ++ [v]).length) z := by
 rw [List.set_append_right _ _ (Nat.le_refl _), Nat.sub_self, show n - pre.length = (n - (pre ++ [v]).length) + 1 by simp; omega, List.replicate_succ, List.set_cons_zero]
 simp
theorem getD_pre {α : Type} (pre : List α) (z d : α) (n j : Nat) (h : j < pre.length) : (pre ++ List.replicate (n - pre.length) z).getD j d = pre.getD j d := by
 rw [List.getD_eq_getElem?_getD, List.getD_eq_getElem?_getD, List.getElem?_append_left h]
theorem u64sub {P : Program} {sl : Sl} {w : World} {t T T' : TypeId} {x y : Operand} {m n : Int} (hx : evs sl x = some (.int .u64 m)) (hy : evs sl y = some (.int .u64 n)) (h : 0 ≤ m - n ∧ m - n ≤ 32) : Runs P sl (.binOp .sub T x y T') t w (.int .u64 (m - n)) := by
 have := Runs.sub (P := P) (t := t) (w := w) (T := T) (T' := T') hx hy
 have e : IntKind.u64.wrap (m - n) = m - n := by
  simp only [IntKind.wrap, IntKind.bits, IntKind.signed, Bool.false_and, Bool.false_eq_true, if_false]
  omega
 rwa [e] at this
theorem build_first (sl : Sl) (w : World) : Runs prog sl (.build 216 #[(0, .const (.int .u32 1779033703)), (1, .const (.int .u32 3144134277)), (2, .const (.int .u32 1013904242)), (3, .const (.int .u32 2773480762)), (4, .const (.int .u32 1359893119)), (5, .const (.int .u32 2600822924)), (6, .const (.int .u32 528734635)), (7, .const (.int .u32 1541459225))]) 216 w (.agg (ShaM.first.list.map V32).toArray) := fun ρ hρ o ho _ => by
 have hc : ∀ v, ρ (.const v) = v := fun v => hρ (.const v) v rfl
 simp only [execOp, ho, hc, List.map_toArray, List.map_cons, List.map_nil]
 refine Eq.trans (b := Result.ok (Next.value (.agg (ShaM.first.list.map V32).toArray)) w) ?_ rfl
 kernel_rfl
theorem build_K (sl : Sl) (w : World) : Runs prog sl (.build 222 #[(0, .const (.int .u32 1116352408)), (1, .const (.int .u32 1899447441)), (2, .const (.int .u32 3049323471)), (3, .const (.int .u32 3921009573)), (4, .const (.int .u32 961987163)), (5, .const (.int .u32 1508970993)), (6, .const (.int .u32 2453635748)), (7, .const (.int .u32 2870763221)), (8, .const (.int .u32 3624381080)), (9, .const (.int .u32 310598401)), (10, .const (.int .u32 607225278)), (11, .const (.int .u32 1426881987)), (12, .const (.int .u32 1925078388)), (13, .const (.int .u32 2162078206)), (14, .const (.int .u32 2614888103)), (15, .const (.int .u32 3248222580)), (16, .const (.int .u32 3835390401)), (17, .const (.int .u32 4022224774)), (18, .const (.int .u32 264347078)), (19, .const (.int .u32 604807628)), (20, .const (.int .u32 770255983)), (21, .const (.int .u32 1249150122)), (22, .const (.int .u32 1555081692)), (23, .const (.int .u32 1996064986)), (24, .const (.int .u32 2554220882)), (25, .const (.int .u32 2821834349)), (26, .const (.int .u32 2952996808)), (27, .const (.int .u32 3210313671)), (28, .const (.int .u32 3336571891)), (29, .const (.int .u32 3584528711)), (30, .const (.int .u32 113926993)), (31, .const (.int .u32 338241895)), (32, .const (.int .u32 666307205)), (33, .const (.int .u32 773529912)), (34, .const (.int .u32 1294757372)), (35, .const (.int .u32 1396182291)), (36, .const (.int .u32 1695183700)), (37, .const (.int .u32 1986661051)), (38, .const (.int .u32 2177026350)), (39, .const (.int .u32 2456956037)), (40, .const (.int .u32 2730485921)), (41, .const (.int .u32 2820302411)), (42, .const (.int .u32 3259730800)), (43, .const (.int .u32 3345764771)), (44, .const (.int .u32 3516065817)), (45, .const (.int .u32 3600352804)), (46, .const (.int .u32 4094571909)), (47, .const (.int .u32 275423344)), (48, .const (.int .u32 430227734)), (49, .const (.int .u32 506948616)), (50, .const (.int .u32 659060556)), (51, .const (.int .u32 883997877)), (52, .const (.int .u32 958139571)), (53, .const (.int .u32 1322822218)), (54, .const (.int .u32 1537002063)), (55, .const (.int .u32 1747873779)), (56, .const (.int .u32 1955562222)), (57, .const (.int .u32 2024104815)), (58, .const (.int .u32 2227730452)), (59, .const (.int .u32 2361852424)), (60, .const (.int .u32 2428436474)), (61, .const (.int .u32 2756734187)), (62, .const (.int .u32 3204031479)), (63, .const (.int .u32 3329325298))]) 222 w (.agg (ShaM.K.map V32).toArray) := fun ρ hρ o ho _ => by
 have hc : ∀ v, ρ (.const v) = v := fun v => hρ (.const v) v rfl
 simp only [execOp, ho, hc, List.map_toArray, List.map_cons, List.map_nil]
 refine Eq.trans (b := Result.ok (Next.value (.agg (ShaM.K.map V32).toArray)) w) ?_ rfl
 kernel_rfl
theorem rot_c (x : Wd) (n : Int) (w : World) (hn : 0 ≤ n ∧ n ≤ 32) : Calls prog 194 #[V32 x, .int .u64 n] w fun e w' => e = .returned (V32 (rotr x n.toNat)) ∧ w' = w := by
 refine enter (args := [V32 x, .int .u64 n]) func194 rfl rfl rfl<|Wi<|WL.e 1 rfl<|We<|WL.e 2 rfl<|C0 (C4 rfl rfl (by omega)) rfl<|WL.e 2 rfl<|C0 (u64sub rfl rfl (by omega)) rfl<|C0 (S4 rfl rfl (by omega)) rfl<|C0 (H5 rfl rfl) rfl<|WL.e 1 rfl<|Wg<|ret1 rfl rfl ⟨?_, rfl⟩
 unfold rotr
 rw [show (32 - n).toNat = 32 - n.toNat by omega]
theorem first_c {cs : List Res} (w : World) (h : St W F cs w) : Calls prog 185 #[] w fun e w' => e = .returned (.agg (ShaM.first.list.map V32).toArray) ∧ St W F cs w'  := by
 refine enter (args := []) func185 rfl rfl rfl<|Wi<|O1 rfl h inf216 fun b0 w1 h1=>We<|C0 (build_first _ _) rfl<|M1 h1 0 rfl rfl rfl inf216 rfl rfl rfl (Free.zero _) ?_
 intro  w2 h2
 try simp only [ZZ] at h2
 refine Wg<|retA rfl ⟨_, rfl, run_loadVarA (vs := ShaM.first.list.map V32) underlying216 rfl inf216 rfl (fun j v hv => by rw [add_mk, Nat.zero_add]; exact h2.ocell (i := 0) rfl (by simpa using hv))⟩ ⟨rfl, h2.drop 0⟩
theorem constants_c {cs : List Res} (w : World) (h : St W F cs w) : Calls prog 193 #[] w fun e w' => e = .returned (.agg (ShaM.K.map V32).toArray) ∧ St W F cs w'  := by
 refine enter (args := []) func193 rfl rfl rfl<|Wi<|O1 rfl h inf222 fun b0 w1 h1=>We<|C0 (build_K _ _) rfl<|M1 h1 0 rfl rfl rfl inf222 rfl rfl rfl (Free.zero _) ?_
 intro  w2 h2
 try simp only [ZZ] at h2
 refine Wg<|retA rfl ⟨_, rfl, run_loadVarA (vs := ShaM.K.map V32) underlying222 rfl inf222 rfl (fun j v hv => by rw [add_mk, Nat.zero_add]; exact h2.ocell (i := 0) rfl (by simpa using hv))⟩ ⟨rfl, h2.drop 0⟩
theorem inf5 : Inf prog 5 (.int .u8 0) 1 1 := by unfold Inf; kernel_rfl
theorem inf199 : Inf prog 199 (.int .u32 0) 1 4 := by unfold Inf; kernel_rfl
theorem can194 : B.Can prog 194 := ⟨_, func194, by kernel_rfl, rfl⟩
theorem set_first' {α : Type} {pre : List α} {z v : α} {n i : Nat} (h : pre.length = i) (hn : i < n) : (pre ++ List.replicate (n - i) z).set i v = pre ++ [v] ++ List.replicate (n - (i + 1)) z := by
 subst h
 have := set_first pre z v n hn
 simpa using this
theorem grow_step (bs : List UInt8) (j : Nat) (hj : j < 48) : (ShaM.grow j (ShaM.firsts bs 16) ++ List.replicate (64 - (16 + j)) (0 : Wd)).set (16 + j)
  ((ShaM.grow j (ShaM.firsts bs 16) ++ List.replicate (64 - (16 + j)) (0 : Wd)).getD j 0 + ShaM.s0 ((ShaM.grow j (ShaM.firsts bs 16) ++ List.replicate (64 - (16 + j)) (0 : Wd)).getD (j + 1) 0) + (ShaM.grow j (ShaM.firsts bs 16) ++ List.replicate (64 - (16 + j)) (0 : Wd)).getD (j + 9) 0 + ShaM.s1 ((ShaM.grow j (ShaM.firsts bs 16) ++ List.replicate (64 - (16 + j)) (0 : Wd)).getD (j + 14) 0)) =
  ShaM.grow (j + 1) (ShaM.firsts bs 16) ++ List.replicate (64 - (16 + (j + 1))) (0 : Wd) := by
 have hl : (ShaM.grow j (ShaM.firsts bs 16)).length = 16 + j := by rw [ShaM.grow_len, ShaM.firsts_len]
 have g : ∀ k, k < 16 + j → (ShaM.grow j (ShaM.firsts bs 16) ++ List.replicate (64 - (16 + j)) (0 : Wd)).getD k 0 = (ShaM.grow j (ShaM.firsts bs 16)).getD k 0 := by
  intro k hk
  have := getD_pre (ShaM.grow j (ShaM.firsts bs 16)) (0 : Wd) 0 64 k (by omega)
  rwa [hl] at this
 rw [g _ (by omega), g _ (by omega), g _ (by omega), g _ (by omega), set_first' hl (by omega)]
 show _ = (ShaM.grow j (ShaM.firsts bs 16) ++ [ShaM.ext (ShaM.grow j (ShaM.firsts bs 16))]) ++ _
 unfold ShaM.ext
 rw [hl, show 16 + j - 16 = j by omega, show 16 + j - 15 = j + 1 by omega, show 16 + j - 7 = j + 9 by omega, show 16 + j - 2 = j + 14 by omega, show 16 + j + 1 = 16 + (j + 1) by omega]
theorem first_step (bs : List UInt8) (i : Nat) (hi : i < 16) : (ShaM.firsts bs i ++ List.replicate (64 - i) (0 : Wd)).set i (ShaM.w0 bs i) = ShaM.firsts bs (i + 1) ++ List.replicate (64 - (i + 1)) (0 : Wd) := by
 rw [set_first' (ShaM.firsts_len bs i) (by omega), ShaM.firsts_succ]
theorem schedule_c {cs : List Res} {ad : Addr} {cap : Nat} {bs : List UInt8} (w : World) (h : St W F cs w) (hrd : ∀ i x, bs[i]? = some x → cellF F (ad.add i) = some (V8 x)) (hl : bs.length = 64) : Calls prog 192 #[.slice (some ad) bs.length cap] w fun e w' => e = .returned (.agg ((ShaM.sched bs).map V32).toArray) ∧ St W F cs w'  := by
 refine enter (args := [.slice (some ad) bs.length cap]) func192 rfl rfl rfl<|Wi<|O1 rfl h inf222 fun b2 w1 h1=>We<|O1 rfl h1 inf222 fun b3 w2 h2=>Wh<|WL.e 1 rfl<|Wj<|U3 (σ := Nat) (fun i => [(0, .slice (some ad) bs.length cap), (2, .pointer (some ⟨b2, 0, none⟩)), (3, .pointer (some ⟨b3, 0, none⟩)), (8, .int .i64 (i : Int))]) (fun i w => i ≤ 16 ∧ St W F ([(b3, .cells ((ShaM.firsts bs i ++ List.replicate (64 - i) (0 : Wd)).map V32).toArray 222 (0, 0))] :: [(b2, .cells ((List.replicate 64 (0 : Wd)).map V32).toArray 222 (0, 0))] :: cs) w) (fun i => 16 - i) (0) ⟨rfl, rfl, rfl, rfl, trivial⟩ (⟨by omega, h2⟩) ?_
 rintro i w3 ⟨hi, hL⟩
 try dsimp only at hi hL
 refine Wi<|C0 (N1 rfl rfl) rfl<|Wb<|U0 rfl (fun c4 => ?_) (fun c4 => ?_)
 ·try simp only [DD] at c4
  refine O0<|H0<|L0<|WC.block<|Wi<|WL.e 2 rfl<|Wa<|O3 (fun w_ => St W F _ w_) (fun k => Nat.beq k 35) mixed (by kernel_rfl) (hL.drew)<|fun hx =>WM.e hx 3 rfl<|C2 hx (by rfl) rfl (fun w_ => N3 rfl rfl (by omega)) rfl<|C2 hx (by rfl) rfl (fun w_ => C1 underlying120 inf5 rfl rfl (n := 4 * i) (by omega) (by omega)) rfl<|WM.val 3 hx (by rfl) rfl (by kernel_rfl) (fun w_ hC_ => T1 (0 : UInt8) hC_ hrd (n := 4 * i) (by omega) underlying5 rfl rfl) rfl<|C2 hx (by rfl) rfl (fun w_ => L4 underlying5 underlying199 rfl) rfl<|C2 hx (by rfl) rfl (fun w_ => S4 rfl rfl (by decide)) rfl<|WM.e hx 2 rfl<|C2 hx (by rfl) rfl (fun w_ => N3 rfl rfl (by omega)) rfl<|C2 hx (by rfl) rfl (fun w_ => Q0 rfl rfl (by omega)) rfl<|C2 hx (by rfl) rfl (fun w_ => C1 underlying120 inf5 rfl rfl (n := 4 * i + 1) (by omega) (by omega)) rfl<|WM.val 3 hx (by rfl) rfl (by kernel_rfl) (fun w_ hC_ => T1 (0 : UInt8) hC_ hrd (n := 4 * i + 1) (by omega) underlying5 rfl rfl) rfl<|C2 hx (by rfl) rfl (fun w_ => L4 underlying5 underlying199 rfl) rfl<|C2 hx (by rfl) rfl (fun w_ => S4 rfl rfl (by decide)) rfl<|C2 hx (by rfl) rfl (fun w_ => H5 rfl rfl) rfl<|WM.e hx 2 rfl<|C2 hx (by rfl) rfl (fun w_ => N3 rfl rfl (by omega)) rfl<|C2 hx (by rfl) rfl (fun w_ => Q0 rfl rfl (by omega)) rfl<|C2 hx (by rfl) rfl (fun w_ => C1 underlying120 inf5 rfl rfl (n := 4 * i + 2) (by omega) (by omega)) rfl<|WM.val 3 hx (by rfl) rfl (by kernel_rfl) (fun w_ hC_ => T1 (0 : UInt8) hC_ hrd (n := 4 * i + 2) (by omega) underlying5 rfl rfl) rfl<|C2 hx (by rfl) rfl (fun w_ => L4 underlying5 underlying199 rfl) rfl<|C2 hx (by rfl) rfl (fun w_ => S4 rfl rfl (by decide)) rfl<|C2 hx (by rfl) rfl (fun w_ => H5 rfl rfl) rfl<|WM.e hx 2 rfl<|C2 hx (by rfl) rfl (fun w_ => N3 rfl rfl (by omega)) rfl<|C2 hx (by rfl) rfl (fun w_ => Q0 rfl rfl (by omega)) rfl<|C2 hx (by rfl) rfl (fun w_ => C1 underlying120 inf5 rfl rfl (n := 4 * i + 3) (by omega) (by omega)) rfl<|WM.val 3 hx (by rfl) rfl (by kernel_rfl) (fun w_ hC_ => T1 (0 : UInt8) hC_ hrd (n := 4 * i + 3) (by omega) underlying5 rfl rfl) rfl<|C2 hx (by rfl) rfl (fun w_ => L4 underlying5 underlying199 rfl) rfl<|C2 hx (by rfl) rfl (fun w_ => H5 rfl rfl) rfl<|C2 hx (by rfl) rfl (fun w_ => H2 underlying222 inf199 rfl rfl (n := i) (by omega) (by omega)) rfl<|Z3 hx rfl (by decide) (by kernel_rfl) fun w5 h5=>WD.op (by rfl) rfl (by kernel_rfl)<|Y3 h5 0 rfl rfl (u := ShaM.w0 bs i) rfl inf199 rfl rfl (Free.zero _) (by simp [ShaM.firsts_len]; omega) ?_
  intro  w6 h6
  try simp only [ZZ] at h6
  refine WL.nil<|L3<|WD.fin rfl (by kernel_rfl)<|WN.blk<|H0<|K0<|C0 (Q0 rfl rfl (by omega)) rfl<|WL.e 1 rfl<|WL.nil<|X0 (i + 1) (by omega) ⟨rfl, rfl, rfl, rfl, trivial⟩ ⟨by omega, ?_⟩
  rw [← first_step bs i (by omega)]
  exact h6
 ·try simp only [DD] at c4
  refine WC.exit<|Q1<|WX.cut<|S1<|H0<|L0<|Wi<|WL.e 1 rfl<|Wj<|U3 (σ := Nat) (fun j => [(2, .pointer (some ⟨b2, 0, none⟩)), (3, .pointer (some ⟨b3, 0, none⟩)), (5, .int .i64 ((16 + j : Nat) : Int))]) (fun j w => j ≤ 48 ∧ St W F ([(b3, .cells ((ShaM.grow j (ShaM.firsts bs 16) ++ List.replicate (64 - (16 + j)) (0 : Wd)).map V32).toArray 222 (0, 0))] :: [(b2, .cells ((List.replicate 64 (0 : Wd)).map V32).toArray 222 (0, 0))] :: cs) w) (fun j => 48 - j) (0) ⟨rfl, rfl, rfl, trivial⟩ (⟨by omega, by obtain rfl : i = 16 := (by omega); exact hL⟩) ?_
  rintro j w7 ⟨hj, hL⟩
  try dsimp only at hj hL
  refine L0<|Wi<|WL.e 1 rfl<|C0 (N1 rfl rfl) rfl<|Wa<|U0 rfl (fun c8 => ?_) (fun c8 => ?_)
  ·try simp only [DD] at c8
   refine O0<|H0<|L0<|WC.block<|L0<|I2 (C := fun w_ => St W F _ w_) mixed (by kernel_rfl) (hL.drew)<|WQ.e 1 rfl<|WQ.val (fun w_ hC_ => W2 rfl rfl (by omega)) rfl<|WQ.val (fun w_ hC_ => H2 underlying222 inf199 rfl rfl (n := j + 1) (by omega) (by omega)) rfl<|WQ.val (fun w_ hC_ => J2 (0 : Wd) hC_ 0 rfl (n := j + 1) (by simp [ShaM.grow_len, ShaM.firsts_len]; omega) underlying199 rfl rfl) rfl<|WQ.e 1 rfl<|WQ.val (fun w_ hC_ => W2 rfl rfl (by omega)) rfl<|WQ.val (fun w_ hC_ => H2 underlying222 inf199 rfl rfl (n := j + 14) (by omega) (by omega)) rfl<|WQ.val (fun w_ hC_ => J2 (0 : Wd) hC_ 0 rfl (n := j + 14) (by simp [ShaM.grow_len, ShaM.firsts_len]; omega) underlying199 rfl rfl) rfl<|WQ.e 2 rfl<|WQ.fin fun w9 h9=>H0<|O3 (fun w_ => St W F _ w_) (fun k => Nat.beq k 29) mixed (by kernel_rfl) (h9.drew)<|fun hx =>WM.e hx 2 rfl<|C2 hx (by rfl) rfl (fun w_ => W2 rfl rfl (by omega)) rfl<|C2 hx (by rfl) rfl (fun w_ => H2 underlying222 inf199 rfl rfl (n := j) (by omega) (by omega)) rfl<|WM.val 3 hx (by rfl) rfl (by kernel_rfl) (fun w_ hC_ => J2 (0 : Wd) hC_ 0 rfl (n := j) (by simp [ShaM.grow_len, ShaM.firsts_len]; omega) underlying199 rfl rfl) rfl<|WM.e hx 1 rfl<|F5 3 hx (by rfl) rfl (by kernel_rfl) can194 rfl rfl (fun w_ hC_ => (rot_c _ _ _ (by decide)).mono fun e w1 he => ⟨he.1, by rw [he.2]; exact hC_⟩)<|WM.e hx 1 rfl<|F5 3 hx (by rfl) rfl (by kernel_rfl) can194 rfl rfl (fun w_ hC_ => (rot_c _ _ _ (by decide)).mono fun e w1 he => ⟨he.1, by rw [he.2]; exact hC_⟩)<|C2 hx (by rfl) rfl (fun w_ => H3 rfl rfl) rfl<|WM.e hx 1 rfl<|C2 hx (by rfl) rfl (fun w_ => C4 rfl rfl (by decide)) rfl<|C2 hx (by rfl) rfl (fun w_ => H3 rfl rfl) rfl<|C2 hx (by rfl) rfl (fun w_ => F3 rfl rfl) rfl<|WM.e hx 1 rfl<|C2 hx (by rfl) rfl (fun w_ => W2 rfl rfl (by omega)) rfl<|C2 hx (by rfl) rfl (fun w_ => H2 underlying222 inf199 rfl rfl (n := j + 9) (by omega) (by omega)) rfl<|WM.val 3 hx (by rfl) rfl (by kernel_rfl) (fun w_ hC_ => J2 (0 : Wd) hC_ 0 rfl (n := j + 9) (by simp [ShaM.grow_len, ShaM.firsts_len]; omega) underlying199 rfl rfl) rfl<|C2 hx (by rfl) rfl (fun w_ => F3 rfl rfl) rfl<|WM.e hx 1 rfl<|F5 3 hx (by rfl) rfl (by kernel_rfl) can194 rfl rfl (fun w_ hC_ => (rot_c _ _ _ (by decide)).mono fun e w1 he => ⟨he.1, by rw [he.2]; exact hC_⟩)<|WM.e hx 1 rfl<|F5 3 hx (by rfl) rfl (by kernel_rfl) can194 rfl rfl (fun w_ hC_ => (rot_c _ _ _ (by decide)).mono fun e w1 he => ⟨he.1, by rw [he.2]; exact hC_⟩)<|C2 hx (by rfl) rfl (fun w_ => H3 rfl rfl) rfl<|WM.e hx 1 rfl<|C2 hx (by rfl) rfl (fun w_ => C4 rfl rfl (by decide)) rfl<|C2 hx (by rfl) rfl (fun w_ => H3 rfl rfl) rfl<|C2 hx (by rfl) rfl (fun w_ => F3 rfl rfl) rfl<|C2 hx (by rfl) rfl (fun w_ => H2 underlying222 inf199 rfl rfl (n := 16 + j) (by omega) (by omega)) rfl<|Z3 hx rfl (by decide) (by kernel_rfl) fun w10 h10=>WD.op (by rfl) rfl (by kernel_rfl)<|Y3 h10 0 rfl rfl rfl inf199 rfl rfl (Free.zero _) (by simp [ShaM.grow_len, ShaM.firsts_len]; omega) ?_
   intro  w11 h11
   try simp only [ZZ] at h11
   refine WL.nil<|L3<|WD.fin rfl (by kernel_rfl)<|WN.blk<|H0<|K0<|WL.e 1 rfl<|C0 (Q0 rfl rfl (by omega)) rfl<|WL.e 1 rfl<|WL.nil<|X0 (j + 1) (by omega) ⟨rfl, rfl, rfl, trivial⟩ ⟨by omega, ?_⟩
   rw [← grow_step bs j (by omega)]
   exact h11
  ·try simp only [DD] at c8
   refine WC.exit<|Q1<|WX.cut<|S1<|H0<|L0<|K0 ?_
   obtain rfl : j = 48 := by omega
   have hS : St W F ([(b3, .cells ((ShaM.sched bs).map V32).toArray 222 (0, 0))] :: [(b2, .cells ((List.replicate 64 (0 : Wd)).map V32).toArray 222 (0, 0))] :: cs) w7 := by
    have e : ShaM.grow 48 (ShaM.firsts bs 16) ++ List.replicate (64 - (16 + 48)) (0 : Wd) = ShaM.sched bs := by simp [ShaM.sched]
    rw [← e]; exact hL
   refine C0 (E2 hS 0 rfl underlying222 rfl inf222 (by simp [ShaM.sched_len]) rfl) rfl<|M1 hS 1 rfl rfl rfl inf222 (by simp [ShaM.sched_len]) (by simp [ShaM.sched_len]) (by rw [List.all_eq_true]; intro v hv; simp at hv; obtain ⟨a, _, rfl⟩ := hv; rfl) (Free.zero _) ?_
   intro  w12 h12
   try simp only [ZZ] at h12
   refine Wg<|retA rfl ⟨_, rfl, run_loadVarA (vs := (ShaM.sched bs).map V32) underlying222 rfl inf222 (by simp [ShaM.sched_len]) (fun j v hv => by rw [add_mk, Nat.zero_add]; exact h12.ocell (i := 1) rfl (by simpa using hv))⟩ ⟨rfl, (h12.drop 0).drop 0⟩
theorem can192 : B.Can prog 192 := ⟨_, func192, by kernel_rfl, rfl⟩
theorem can193 : B.Can prog 193 := ⟨_, func193, by kernel_rfl, rfl⟩
theorem okb_lo {l : Int} {len cap : Nat} (h : 0 ≤ l ∧ l ≤ len) : okb (some l) none len cap := ⟨fun h e => (by cases e), fun l' e => by injection e with e; subst e; exact h⟩
theorem okb_hi {l : Int} {len cap : Nat} (h : 0 ≤ l ∧ l ≤ cap) : okb none (some l) len cap := ⟨fun h' e => (by injection e with e; subst e; exact h), fun l' e => (by cases e)⟩
theorem okb_lh {l h : Int} {len cap : Nat} (h0 : 0 ≤ l ∧ l ≤ h) (h1 : h ≤ cap) : okb (some l) (some h) len cap := ⟨fun h' e => (by injection e with e; subst e; omega), fun l' e => by injection e with e; subst e; simp only [hi_, Option.map_some, Option.getD_some]; omega⟩
theorem okb_no {len cap : Nat} : okb none none len cap := ⟨fun h e => (by cases e), fun l e => (by cases e)⟩
theorem first_own {P : Program} {W w : World} {F : Snap} {cs : List Res} (h : St W F cs w) (i : Nat) {b : Nat} {arr : Array Value} {tt : TypeId} {fz : Nat × Nat} (hi : cs[i]? = some [(b, .cells arr tt fz)]) (n m c : Nat) (hn : n ≤ arr.size) :
  (Builtin.firstCells 1 n (.slice (some ⟨b, 0, none⟩) m c)).run P w = .ok (arr.toList.take n).toArray w := by
 have hl : (arr.toList.take n).length = n := by rw [List.length_take, Array.length_toList]; omega
 have := B.run_loadCells (P := P) (w := w) (a := ⟨b, 0, none⟩) (arr.toList.take n) 0 #[] (fun j v hv => by
  rw [add_mk]
  refine h.ocell hi ?_
  rw [List.getElem?_take] at hv
  split at hv
  ·simpa using hv
  ·cases hv)
 rw [hl] at this
 simpa [Builtin.firstCells, loadCells] using this
theorem block_c {cs : List Res} {b : Nat} {ad : Addr} {cap : Nat} {bs : List UInt8} (w : World) (d : D8) (h : St W F ([(b, .cells ((d.list).map V32).toArray 216 (0, 0))] :: cs) w) (hrd : ∀ i x, bs[i]? = some x → cellF F (ad.add i) = some (V8 x)) (hl : bs.length = 64) : Calls prog 186 #[.pointer (some ⟨b, 0, none⟩), .slice (some ad) bs.length cap] w fun e w' => e = .returned (.tuple #[]) ∧ St W F ([(b, .cells (((ShaM.block d bs).list).map V32).toArray 216 (0, 0))] :: cs) w'  := by
 refine enter (args := [.pointer (some ⟨b, 0, none⟩), .slice (some ad) bs.length cap]) func186 rfl rfl rfl<|Wi<|WL.e 1 rfl<|WL.cv can192 rfl rfl (schedule_c _ h hrd hl) fun w1 h1 =>WL.cv can193 rfl rfl (constants_c _ h1) fun w2 h2 =>O1 rfl h2 inf222 fun b4 w3 h3=>O1 rfl h3 inf222 fun b5 w4 h4=>M1 h4 1 rfl rfl rfl inf222 (by simp [ShaM.sched_len]) (by simp [ShaM.sched_len, Value.cells]) (by rw [List.all_eq_true]; intro v hv; simp at hv; obtain ⟨a, _, rfl⟩ := hv; rfl) (Free.zero _) ?_
 intro  w5 h5
 try simp only [ZZ] at h5
 refine M1 h5 0 rfl rfl rfl inf222 rfl rfl rfl (Free.zero _) ?_
 intro  w6 h6
 try simp only [ZZ] at h6
 refine We<|WL.e 2 rfl<|C0 (E2 h6 2 rfl underlying216 rfl inf216 rfl rfl) rfl<|O1 rfl h6 inf216 fun b6 w7 h7=>M1 h7 0 rfl rfl rfl inf216 rfl rfl rfl (Free.zero _) ?_
 intro  w8 h8
 try simp only [ZZ] at h8
 refine Wh<|WL.e 1 rfl<|Wj<|U3 (σ := Nat) (fun i => [(0, .pointer (some ⟨b, 0, none⟩)), (4, .pointer (some ⟨b4, 0, none⟩)), (5, .pointer (some ⟨b5, 0, none⟩)), (6, .pointer (some ⟨b6, 0, none⟩)), (19, .int .i64 (i : Int))]) (fun i w => i ≤ 64 ∧ St W F ([(b6, .cells (((ShaM.rounds (ShaM.sched bs) i d).list).map V32).toArray 216 (0, 0))] :: [(b5, .cells ((ShaM.K).map V32).toArray 222 (0, 0))] :: [(b4, .cells ((ShaM.sched bs).map V32).toArray 222 (0, 0))] :: [(b, .cells ((d.list).map V32).toArray 216 (0, 0))] :: cs) w) (fun i => 64 - i) (0) ⟨rfl, rfl, rfl, rfl, rfl, trivial⟩ (⟨by omega, h8⟩) ?_
 rintro i w9 ⟨hi, hL⟩
 try dsimp only at hi hL
 refine Wi<|C0 (N1 rfl rfl) rfl<|Wb<|U0 rfl (fun c10 => ?_) (fun c10 => ?_)
 ·try simp only [DD] at c10
  refine O0<|H0<|L0<|WC.block<|Wi<|WL.e 2 rfl<|Wb<|I2 (C := fun w_ => St W F _ w_) mixed (by kernel_rfl) (hL.drew)<|WQ.val (fun w_ hC_ => H2 underlying216 inf199 rfl rfl (n := 0) (by omega) (by omega)) rfl<|WQ.val (fun w_ hC_ => J2 (0 : Wd) hC_ 0 rfl (n := 0) (by show _ < 8; omega) underlying199 rfl rfl) rfl<|WQ.val (fun w_ hC_ => H2 underlying216 inf199 rfl rfl (n := 4) (by omega) (by omega)) rfl<|WQ.val (fun w_ hC_ => J2 (0 : Wd) hC_ 0 rfl (n := 4) (by show _ < 8; omega) underlying199 rfl rfl) rfl<|WQ.e 2 rfl<|WQ.fin fun w11 h11=>H0<|L0<|I2 (C := fun w_ => St W F _ w_) mixed (by kernel_rfl) (h11.drew)<|WQ.val (fun w_ hC_ => H2 underlying216 inf199 rfl rfl (n := 7) (by omega) (by omega)) rfl<|WQ.val (fun w_ hC_ => J2 (0 : Wd) hC_ 0 rfl (n := 7) (by show _ < 8; omega) underlying199 rfl rfl) rfl<|WQ.e 1 rfl<|E5 can194 rfl rfl (fun w_ hC_ => (rot_c _ _ _ (by decide)).mono fun e w1 he => ⟨he.1, by rw [he.2]; exact hC_⟩)<|WQ.e 1 rfl<|E5 can194 rfl rfl (fun w_ hC_ => (rot_c _ _ _ (by decide)).mono fun e w1 he => ⟨he.1, by rw [he.2]; exact hC_⟩)<|WQ.val (fun w_ hC_ => H3 rfl rfl) rfl<|WQ.e 1 rfl<|E5 can194 rfl rfl (fun w_ hC_ => (rot_c _ _ _ (by decide)).mono fun e w1 he => ⟨he.1, by rw [he.2]; exact hC_⟩)<|WQ.val (fun w_ hC_ => H3 rfl rfl) rfl<|WQ.val (fun w_ hC_ => F3 rfl rfl) rfl<|WQ.e 1 rfl<|WQ.val (fun w_ hC_ => H2 underlying216 inf199 rfl rfl (n := 5) (by omega) (by omega)) rfl<|WQ.val (fun w_ hC_ => J2 (0 : Wd) hC_ 0 rfl (n := 5) (by show _ < 8; omega) underlying199 rfl rfl) rfl<|WQ.val (fun w_ hC_ => H4 rfl rfl) rfl<|WQ.e 1 rfl<|WQ.val (fun w_ hC_ => Runs.com32 rfl) rfl<|WQ.val (fun w_ hC_ => H2 underlying216 inf199 rfl rfl (n := 6) (by omega) (by omega)) rfl<|WQ.val (fun w_ hC_ => J2 (0 : Wd) hC_ 0 rfl (n := 6) (by show _ < 8; omega) underlying199 rfl rfl) rfl<|WQ.val (fun w_ hC_ => H4 rfl rfl) rfl<|WQ.val (fun w_ hC_ => H3 rfl rfl) rfl<|WQ.val (fun w_ hC_ => F3 rfl rfl) rfl<|WQ.e 1 rfl<|WQ.val (fun w_ hC_ => H2 underlying222 inf199 rfl rfl (n := i) (by omega) (by omega)) rfl<|WQ.val (fun w_ hC_ => J2 (0 : Wd) hC_ 1 rfl (n := i) (by show _ < 64; omega) underlying199 rfl rfl) rfl<|WQ.val (fun w_ hC_ => F3 rfl rfl) rfl<|WQ.e 1 rfl<|WQ.val (fun w_ hC_ => H2 underlying222 inf199 rfl rfl (n := i) (by omega) (by omega)) rfl<|WQ.val (fun w_ hC_ => J2 (0 : Wd) hC_ 2 rfl (n := i) (by rw [ShaM.sched_len]; omega) underlying199 rfl rfl) rfl<|WQ.val (fun w_ hC_ => F3 rfl rfl) rfl<|WQ.e 1 rfl<|WQ.fin fun w12 h12=>H0<|L0<|I2 (C := fun w_ => St W F _ w_) mixed (by kernel_rfl) (h12.drew)<|WQ.e 1 rfl<|E5 can194 rfl rfl (fun w_ hC_ => (rot_c _ _ _ (by decide)).mono fun e w1 he => ⟨he.1, by rw [he.2]; exact hC_⟩)<|WQ.e 1 rfl<|E5 can194 rfl rfl (fun w_ hC_ => (rot_c _ _ _ (by decide)).mono fun e w1 he => ⟨he.1, by rw [he.2]; exact hC_⟩)<|WQ.val (fun w_ hC_ => H3 rfl rfl) rfl<|WQ.e 1 rfl<|E5 can194 rfl rfl (fun w_ hC_ => (rot_c _ _ _ (by decide)).mono fun e w1 he => ⟨he.1, by rw [he.2]; exact hC_⟩)<|WQ.val (fun w_ hC_ => H3 rfl rfl) rfl<|WQ.e 1 rfl<|WQ.val (fun w_ hC_ => H2 underlying216 inf199 rfl rfl (n := 1) (by omega) (by omega)) rfl<|WQ.val (fun w_ hC_ => J2 (0 : Wd) hC_ 0 rfl (n := 1) (by show _ < 8; omega) underlying199 rfl rfl) rfl<|WQ.val (fun w_ hC_ => H4 rfl rfl) rfl<|WQ.e 1 rfl<|WQ.val (fun w_ hC_ => H2 underlying216 inf199 rfl rfl (n := 2) (by omega) (by omega)) rfl ?_
  refine WQ.val (fun w_ hC_ => J2 (0 : Wd) hC_ 0 rfl (n := 2) (by show _ < 8; omega) underlying199 rfl rfl) rfl<|WQ.val (fun w_ hC_ => H4 rfl rfl) rfl<|WQ.val (fun w_ hC_ => H3 rfl rfl) rfl<|WQ.val (fun w_ hC_ => H2 underlying216 inf199 rfl rfl (n := 1) (by omega) (by omega)) rfl<|WQ.val (fun w_ hC_ => J2 (0 : Wd) hC_ 0 rfl (n := 1) (by show _ < 8; omega) underlying199 rfl rfl) rfl<|WQ.val (fun w_ hC_ => H2 underlying216 inf199 rfl rfl (n := 2) (by omega) (by omega)) rfl<|WQ.val (fun w_ hC_ => J2 (0 : Wd) hC_ 0 rfl (n := 2) (by show _ < 8; omega) underlying199 rfl rfl) rfl<|WQ.val (fun w_ hC_ => H4 rfl rfl) rfl<|WQ.val (fun w_ hC_ => H3 rfl rfl) rfl<|WQ.val (fun w_ hC_ => F3 rfl rfl) rfl<|WQ.e 1 rfl<|WQ.fin fun w13 h13=>H0<|L0<|O3 (fun w_ => St W F _ w_) (fun k => Nat.beq k 2) mixed (by kernel_rfl) (h13.drew)<|fun hx =>C2 hx (by rfl) rfl (fun w_ => Runs.asl underlying216 inf199 rfl (l := some 1) (h := none) rfl rfl (okb_lo (by decide))) rfl<|C2 hx (by rfl) rfl (fun w_ => Runs.asl underlying216 inf199 rfl (l := none) (h := some 7) rfl rfl (okb_hi (by decide))) rfl<|Z3 hx rfl (by decide) (by kernel_rfl) fun w14 h14=>WD.op (by rfl) rfl (by kernel_rfl)<|WL.copy (m := 7) (off := 1) (len := 7) (cap := 7) (src := ((ShaM.rounds (ShaM.sched bs) i d).list.map V32).take 7) h14 0 rfl rfl underlying226 (inf199.elem rfl rfl) rfl rfl rfl (first_own h14 0 rfl 7 7 8 (Nat.le_of_ble_eq_true rfl)) rfl (Free.zero _) (Nat.le_of_ble_eq_true rfl) ?_
  intro  w15 h15
  try simp only [ZZ] at h15
  refine WL.nil<|L3<|WD.fin rfl (by kernel_rfl)<|H0 (L0 (K0 ?_))
  replace h15 : St W F ([(b6, .cells ((([(ShaM.rounds (ShaM.sched bs) i d).a, (ShaM.rounds (ShaM.sched bs) i d).a, (ShaM.rounds (ShaM.sched bs) i d).b, (ShaM.rounds (ShaM.sched bs) i d).c, (ShaM.rounds (ShaM.sched bs) i d).d, (ShaM.rounds (ShaM.sched bs) i d).e, (ShaM.rounds (ShaM.sched bs) i d).f, (ShaM.rounds (ShaM.sched bs) i d).g] : List Wd)).map V32).toArray 216 (0, 0))] :: [(b5, .cells ((ShaM.K).map V32).toArray 222 (0, 0))] :: [(b4, .cells ((ShaM.sched bs).map V32).toArray 222 (0, 0))] :: [(b, .cells ((d.list).map V32).toArray 216 (0, 0))] :: cs) w15 := h15
  refine C0 (H2 underlying216 inf199 rfl rfl (n := 4) (by omega) (by omega)) rfl<|C0 (J2 (0 : Wd) h15 0 rfl (n := 4) (by show _ < 8; omega) underlying199 rfl rfl) rfl<|WL.e 1 rfl<|C0 (F3 rfl rfl) rfl<|C0 (H2 underlying216 inf199 rfl rfl (n := 4) (by omega) (by omega)) rfl<|Y3 h15 0 rfl rfl rfl inf199 rfl rfl (Free.zero _) (by show _ < 8; omega) ?_
  intro  w16 h16
  try simp only [ZZ] at h16
  refine Wf<|WL.e 2 rfl<|C0 (F3 rfl rfl) rfl<|C0 (H2 underlying216 inf199 rfl rfl (n := 0) (by omega) (by omega)) rfl<|Y3 h16 0 rfl rfl rfl inf199 rfl rfl (Free.zero _) (by show _ < 8; omega) ?_
  intro  w17 h17
  try simp only [ZZ] at h17
  refine WL.nil<|WN.blk<|H0<|K0<|C0 (Q0 rfl rfl (by omega)) rfl<|WL.e 1 rfl<|WL.nil<|X0 (i + 1) (by omega) ⟨rfl, rfl, rfl, rfl, rfl, trivial⟩ ⟨by omega, h17⟩
 ·try simp only [DD] at c10
  refine WC.exit<|Q1<|WX.cut<|S1<|H0<|Wi<|WL.e 1 rfl<|Wj<|U3 (σ := Nat) (fun j => [(0, .pointer (some ⟨b, 0, none⟩)), (6, .pointer (some ⟨b6, 0, none⟩)), (93, .int .i64 (j : Int))]) (fun j w => j ≤ 8 ∧ St W F ([(b6, .cells (((ShaM.rounds (ShaM.sched bs) 64 d).list).map V32).toArray 216 (0, 0))] :: [(b5, .cells ((ShaM.K).map V32).toArray 222 (0, 0))] :: [(b4, .cells ((ShaM.sched bs).map V32).toArray 222 (0, 0))] :: [(b, .cells ((ShaM.part d (ShaM.rounds (ShaM.sched bs) 64 d) j).map V32).toArray 216 (0, 0))] :: cs) w) (fun j => 8 - j) (0) ⟨rfl, rfl, rfl, trivial⟩ (⟨by omega, by obtain rfl : i = 64 := (by omega); exact hL⟩) ?_
  rintro j w18 ⟨hj, hL⟩
  try dsimp only at hj hL
  refine Wi<|C0 (N1 rfl rfl) rfl<|Wb<|U0 rfl (fun c19 => ?_) (fun c19 => ?_)
  ·try simp only [DD] at c19
   refine O0<|H0<|L0<|WC.block<|Wi<|WL.e 2 rfl<|Wa<|O3 (fun w_ => St W F _ w_) (fun k => Nat.beq k 11) mixed (by kernel_rfl) (hL.drew)<|fun hx =>WM.e hx 3 rfl<|C2 hx (by rfl) rfl (fun w_ => H2 underlying216 inf199 rfl rfl (n := j) (by omega) (by omega)) rfl<|WM.val 3 hx (by rfl) rfl (by kernel_rfl) (fun w_ hC_ => J2 (0 : Wd) hC_ 3 rfl (n := j) (by rw [ShaM.part_len _ _ (by omega)]; omega) underlying199 rfl rfl) rfl<|WM.e hx 1 rfl<|C2 hx (by rfl) rfl (fun w_ => H2 underlying216 inf199 rfl rfl (n := j) (by omega) (by omega)) rfl<|WM.val 3 hx (by rfl) rfl (by kernel_rfl) (fun w_ hC_ => J2 (0 : Wd) hC_ 0 rfl (n := j) (by show _ < 8; omega) underlying199 rfl rfl) rfl<|C2 hx (by rfl) rfl (fun w_ => F3 rfl rfl) rfl<|WM.e hx 1 rfl<|C2 hx (by rfl) rfl (fun w_ => H2 underlying216 inf199 rfl rfl (n := j) (by omega) (by omega)) rfl<|Z3 hx rfl (by decide) (by kernel_rfl) fun w20 h20=>WD.op (by rfl) rfl (by kernel_rfl)<|Y3 h20 3 rfl rfl rfl inf199 rfl rfl (Free.zero _) (by rw [ShaM.part_len _ _ (by omega)]; omega) ?_
   intro  w21 h21
   try simp only [ZZ] at h21
   refine WL.nil<|L3<|WD.fin rfl (by kernel_rfl)<|WN.blk<|H0<|K0<|C0 (Q0 rfl rfl (by omega)) rfl<|WL.e 1 rfl<|WL.nil<|X0 (j + 1) (by omega) ⟨rfl, rfl, rfl, trivial⟩ ⟨by omega, ?_⟩
   rw [← ShaM.part_set _ _ (by omega), ← ShaM.part_at d (ShaM.rounds (ShaM.sched bs) 64 d) (by omega)]
   exact h21
  ·try simp only [DD] at c19
   refine WC.exit (Q1 (WX.cut (S1 ?_)))
   obtain rfl : j = 8 := by omega
   refine end0 rfl ⟨rfl, ?_⟩
   have e : (ShaM.block d bs).list = ShaM.part d (ShaM.rounds (ShaM.sched bs) 64 d) 8 := D8.list_of (ShaM.part_len _ _ (by omega))
   rw [e]
   exact ((hL.drop 0).drop 0).drop 0
theorem can185 : B.Can prog 185 := ⟨_, func185, by kernel_rfl, rfl⟩
theorem can186 : B.Can prog 186 := ⟨_, func186, by kernel_rfl, rfl⟩
theorem lenb_succ (n i : Nat) : ShaM.lenb n (i + 1) = ShaM.lenb n i ++ [UInt8.ofNat (8 * n / 2 ^ (56 - 8 * i))] := by simp [ShaM.lenb, List.range_succ]
theorem lenb_len (n i : Nat) : (ShaM.lenb n i).length = i := by simp [ShaM.lenb]
theorem pad_len (S : List UInt8) : (ShaM.pad S).length = S.length + 1 + ShaM.pads S.length + 8 := by simp [ShaM.pad, lenb_len]; omega
theorem take_flat {l : List Wd} {i : Nat} (hi : i < l.length) : (l.take (i + 1)).flatMap ShaM.out4 = (l.take i).flatMap ShaM.out4 ++ ShaM.out4 (l.getD i 0) := by
 rw [List.take_succ_eq_append_getElem hi, List.flatMap_append, List.getD_eq_getElem?_getD, List.getElem?_eq_getElem hi]; simp
theorem flat_len (l : List Wd) : (l.flatMap ShaM.out4).length = 4 * l.length := by
 induction l with
 |nil => rfl
 |cons a l ih => rw [List.flatMap_cons, List.length_append, ih]; simp [ShaM.out4]; omega
theorem list_len (d : D8) : d.list.length = 8 := rfl
theorem of_c {cs : List Res} (w : World) (s : ByteArray) (h : St W F cs w) (hs : s.size ≤ 1000000) : Calls prog 177 #[.string s] w fun e w' => e = .returned (.string ⟨(ShaM.of s.data.toList).toArray⟩) ∧ St W F cs w'  := by
 refine enter (args := [.string s]) func177 rfl rfl rfl ?_
 obtain ⟨S, hS⟩ : ∃ S, S = s.data.toList := ⟨_, rfl⟩
 have hSl : S.length = s.size := by rw [hS]; simp
 have hp : ShaM.pads S.length = (119 - S.length % 64) % 64 := rfl
 rw [← hS]
 refine Wi<|WL.e 1 rfl<|We<|WL.e 1 rfl<|WL.s2b h rfl underlying9 underlying120 underlying5 rfl ?_
 intro r0 v0 w1 hr0 h1
 try simp only [ZZ] at h1
 have hrb : Row 5 V8 r0 v0 S := by unfold Row; rw [hSl, hS]; exact hr0
 refine WL.lit (vs := (([0x80] : List UInt8)).map V8) h1 rfl underlying120 inf5 rfl rfl rfl rfl rfl fun lit11 w2 h2=>J3 (ys := ([0x80] : List UInt8)) 1 h2 rfl rfl rfl rfl underlying120 underlying120 (.inr ⟨_, rfl⟩) inf5 rfl hrb (Src.lit h2 0 rfl rfl rfl) rfl rfl (by first | omega | (simp [lenb_len, flat_len, list_len, ShaM.out4]; done) | (simp [lenb_len, flat_len, list_len, ShaM.out4]; omega)) (by first | omega | (simp [lenb_len, flat_len, list_len, ShaM.out4]; done) | (simp [lenb_len, flat_len, list_len, ShaM.out4]; omega)) ?_
 intro r3 v3 w4 hr3 h4
 simp only [lz, ls] at h4
 replace h4 := h4.drop 0
 simp only [ez, es'] at h4
 refine WL.e 1 rfl<|Wb<|WC.block<|U3 (σ := Nat × Res × Value) (fun q_ => [(0, .string s), (3, q_.2.2)]) (fun q_ w => q_.1 ≤ ShaM.pads S.length ∧ Row 5 V8 q_.2.1 q_.2.2 (S ++ [0x80] ++ List.replicate q_.1 0) ∧ St W F (q_.2.1 :: cs) w) (fun q_ => ShaM.pads S.length - q_.1) (⟨0, r3, v3⟩) (by repeat (first | exact trivial | refine ⟨rfl, ?_⟩)) (⟨by omega, by simpa using hr3, h4⟩) ?_
 rintro ⟨k, r, v⟩ w5 ⟨hk, hrb, hL⟩
 try dsimp only at hk hrb hL
 refine WC.sub (s := [(0, .string s), (3, v)]) (by repeat (first | exact trivial | refine ⟨rfl, ?_⟩)) ?_
 obtain ⟨A, cap, rfl, hcap⟩ := hrb.val
 have hlen : (S ++ [0x80] ++ List.replicate k 0).length = S.length + 1 + k := by simp; omega
 refine L0<|Wi<|WL.e 1 rfl<|C0 (R0 underlying120 rfl rfl) rfl<|C0 (Runs.remn rfl rfl (by omega) (by omega)) rfl<|C0 (Z1 rfl rfl) rfl<|Wa<|U0 rfl (fun c6 => ?_) (fun c6 => ?_)
 ·try simp only [DD] at c6
  first
  |(exfalso; omega)
  |skip
   refine O0<|H0<|WC.block<|K0<|WL.e 1 rfl<|WL.lit (vs := (([0] : List UInt8)).map V8) hL rfl underlying120 inf5 rfl rfl rfl rfl rfl fun lit18 w7 h7=>J3 (ys := ([0] : List UInt8)) 1 h7 rfl rfl rfl rfl underlying120 underlying120 (.inr ⟨_, rfl⟩) inf5 rfl hrb (Src.lit h7 0 rfl rfl rfl) rfl rfl (by first | omega | (simp [lenb_len, flat_len, list_len, ShaM.out4]; done) | (simp [lenb_len, flat_len, list_len, ShaM.out4]; omega)) (by first | omega | (simp [lenb_len, flat_len, list_len, ShaM.out4]; done) | (simp [lenb_len, flat_len, list_len, ShaM.out4]; omega)) ?_
   intro r8 v8 w9 hr8 h9
   simp only [lz, ls] at h9
   replace h9 := h9.drop 0
   simp only [ez, es'] at h9
   refine WL.e 1 rfl<|WL.nil<|WN.blk<|X0 (⟨k + 1, r8, v8⟩ : Nat × Res × Value) (by show _ - (k + 1) < _ - k; omega) ⟨rfl, rfl, trivial⟩ ⟨by show k + 1 ≤ _; omega, ?_, h9⟩
   have := hr8
   rwa [List.append_assoc, ← List.replicate_succ'] at this
 ·try simp only [DD] at c6
  first
  |(exfalso; omega)
  |skip
   refine WC.exit<|Q1<|WX.cut<|S1<|H0<|L0<|Wi<|WL.e 1 rfl<|Wj<|U3 (σ := Nat × Res × Value) (fun q_ => [(0, .string s), (3, q_.2.2), (4, .int .i64 (56 - 8 * (q_.1 : Int)))]) (fun q_ w => q_.1 ≤ 8 ∧ Row 5 V8 q_.2.1 q_.2.2 ((S ++ [0x80] ++ List.replicate (ShaM.pads S.length) 0) ++ ShaM.lenb S.length q_.1) ∧ St W F (q_.2.1 :: cs) w) (fun q_ => 8 - q_.1) (⟨0, r, _⟩) (by repeat (first | exact trivial | refine ⟨rfl, ?_⟩)) (⟨by omega, by obtain rfl : k = ShaM.pads S.length := (by omega); simpa [ShaM.lenb] using hrb, hL⟩) ?_
   rintro ⟨i, r, v⟩ w10 ⟨hi, hrb, hL⟩
   try dsimp only at hi hrb hL
   refine WC.sub (s := [(0, .string s), (3, v), (4, .int .i64 (56 - 8 * (i : Int)))]) (by repeat (first | exact trivial | refine ⟨rfl, ?_⟩)) ?_
   obtain ⟨A, cap, rfl, hcap⟩ := hrb.val
   have hlen : ((S ++ [0x80] ++ List.replicate (ShaM.pads S.length) 0) ++ ShaM.lenb S.length i).length = S.length + 1 + ShaM.pads S.length + i := by simp [lenb_len]; omega
   refine L0<|Wi<|WL.e 1 rfl<|C0 (Z0 rfl rfl) rfl<|Wa<|U0 rfl (fun c11 => ?_) (fun c11 => ?_)
   ·try simp only [DD] at c11
    first
    |(exfalso; omega)
    |skip
     refine O0<|H0<|L0<|WC.block<|K0<|WL.e 2 rfl<|C0 (N2 underlying9 rfl rfl) rfl<|C0 (N3 rfl rfl (by omega)) rfl<|WL.e 1 rfl<|C0 (E4 rfl rfl (by omega)) rfl<|C0 (R4 underlying3 underlying5 rfl (m := 8 * s.size / 2 ^ (56 - 8 * i)) (shr_nat (a := 8 * s.size) (by omega) (by omega))) rfl<|WL.lit (vs := (([UInt8.ofNat (8 * s.size / 2 ^ (56 - 8 * i))] : List UInt8)).map V8) hL rfl underlying120 inf5 rfl rfl rfl rfl rfl fun lit31 w12 h12=>J3 (ys := ([UInt8.ofNat (8 * s.size / 2 ^ (56 - 8 * i))] : List UInt8)) 1 h12 rfl rfl rfl rfl underlying120 underlying120 (.inr ⟨_, rfl⟩) inf5 rfl hrb (Src.lit h12 0 rfl rfl rfl) rfl rfl (by first | omega | (simp [lenb_len, flat_len, list_len, ShaM.out4]; done) | (simp [lenb_len, flat_len, list_len, ShaM.out4]; omega)) (by first | omega | (simp [lenb_len, flat_len, list_len, ShaM.out4]; done) | (simp [lenb_len, flat_len, list_len, ShaM.out4]; omega)) ?_
     intro r13 v13 w14 hr13 h14
     simp only [lz, ls] at h14
     replace h14 := h14.drop 0
     simp only [ez, es'] at h14
     refine WL.e 1 rfl<|WL.nil<|WN.blk<|H0<|K0<|WL.e 1 rfl<|C0 (W2 rfl rfl (by omega)) rfl<|WL.e 1 rfl<|WL.nil<|X0 (⟨i + 1, r13, v13⟩ : Nat × Res × Value) (by show 8 - (i + 1) < 8 - i; omega) ⟨rfl, rfl, ?_, trivial⟩ ⟨by show i + 1 ≤ 8; omega, ?_, h14⟩
     ·show some (Value.int .i64 (56 - 8 * (i : Int) - 8)) = some (.int .i64 (56 - 8 * ((i + 1 : Nat) : Int)))
      rw [show (56 - 8 * (i : Int) - 8) = 56 - 8 * ((i + 1 : Nat) : Int) by omega]
     ·have := hr13
      rw [← hSl] at this
      rwa [List.append_assoc, ← lenb_succ] at this
   ·try simp only [DD] at c11
    first
    |(exfalso; omega)
    |skip
     refine WC.exit<|Q1<|WX.cut<|S1<|H0<|L0<|K0 ?_
     obtain rfl : i = 8 := by omega
     obtain ⟨G, hG1, hG2, hG3⟩ := hL.freeze (i := 0) rfl
     simp only [List.eraseIdx_cons_zero] at hG3
     have hR0 : RdS Kd.u8 G A (ShaM.pad S) := Row.read (f := V8) (hrb : Row _ _ _ _ (ShaM.pad S)) rfl hG2
     refine H1 can185 rfl rfl (first_c _ hG3) ?_
     rintro _ wf ⟨rfl, hf⟩
     refine ⟨_, rfl,O1 rfl hf inf216 fun b5 w15 h15=>M1 h15 0 rfl rfl rfl inf216 rfl rfl rfl (Free.zero _) ?_⟩
     intro  w16 h16
     try simp only [ZZ] at h16
     refine Wb<|WC.block<|U3 (σ := Nat × D8 × List UInt8 × Option Addr × Nat) (fun q_ => [(3, .slice q_.2.2.2.1 q_.2.2.1.length q_.2.2.2.2), (5, .pointer (some ⟨b5, 0, none⟩))]) (fun q_ w => q_.2.2.1.length = 64 * q_.1 ∧ ShaM.blocks q_.1 q_.2.1 q_.2.2.1 = ShaM.blocks ((ShaM.pad S).length / 64) ShaM.first (ShaM.pad S) ∧ RdS Kd.u8 G q_.2.2.2.1 q_.2.2.1 ∧ q_.2.2.1.length ≤ q_.2.2.2.2 ∧ St W G ([(b5, .cells ((q_.2.1.list).map V32).toArray 216 (0, 0))] :: cs) w) (fun q_ => q_.1) (⟨(ShaM.pad S).length / 64, ShaM.first, ShaM.pad S, A, cap⟩) (by repeat (first | exact trivial | refine ⟨rfl, ?_⟩)) (⟨by show (ShaM.pad S).length = 64 * ((ShaM.pad S).length / 64); rw [pad_len]; omega, rfl, hR0, hcap, h16⟩) ?_
     rintro ⟨n, dd, l, A1, cap'⟩ w17 ⟨hl, hB, hR, hc, hL⟩
     try dsimp only at hl hB hR hc hL
     refine WC.sub (s := [(3, .slice A1 l.length cap'), (5, .pointer (some ⟨b5, 0, none⟩))]) (by repeat (first | exact trivial | refine ⟨rfl, ?_⟩)) ?_
     refine L0<|Wi<|WL.e 1 rfl<|C0 (R0 underlying120 rfl rfl) rfl<|C0 (X1 rfl rfl) rfl<|Wa<|U0 rfl (fun c18 => ?_) (fun c18 => ?_)
     ·try simp only [DD] at c18
      first
      |(exfalso; omega)
      |skip
       refine O0 (H0 (L0 (WC.block (K0 ?_))))
       obtain ⟨n, rfl⟩ : ∃ m, n = m + 1 := ⟨n - 1, by omega⟩
       obtain ⟨ad, rfl, hrd⟩ := rd1 hR (by omega)
       refine WL.e 1 rfl<|C0 (Z4 underlying120 inf5 rfl rfl (n := 64) rfl (by omega)) rfl ?_
       have e64 : (l.take 64).length = 64 := by rw [List.length_take]; omega
       have hb := block_c (bs := l.take 64) (ad := ad) (cap := cap') w17 dd hL (fun i x hx => hrd i x (by rw [List.getElem?_take] at hx; split at hx <;> first | exact hx | cases hx)) e64
       rw [e64] at hb
       refine H1 can186 rfl rfl hb ?_
       rintro _ wb ⟨rfl, hb2⟩
       refine ⟨_, rfl,WL.nil<|WN.blk<|H0<|K0<|WL.e 1 rfl<|C0 (B5 underlying120 inf5 rfl rfl (n := 64) rfl (by omega)) rfl<|WL.e 1 rfl<|WL.nil<|X0 (⟨n, ShaM.block dd (l.take 64), l.drop 64, (if cap' = 64 then some ad else (some ad).map (·.add (64 * 1))), cap' - 64⟩ : Nat × D8 × List UInt8 × Option Addr × Nat) (by show n < n + 1; omega) ⟨?_, rfl, trivial⟩ ⟨?_, hB, hR.drop 64 (cap := cap') (by omega), ?_, hb2⟩⟩
       ·show _ = some (Value.slice _ (l.drop 64).length _)
        rw [List.length_drop]; rfl
       ·show (l.drop 64).length = 64 * n
        rw [List.length_drop]; omega
       ·show (l.drop 64).length ≤ cap' - 64
        rw [List.length_drop]; omega
     ·try simp only [DD] at c18
      first
      |(exfalso; omega)
      |skip
       refine WC.exit<|Q1<|WX.cut<|S1<|H0<|Wi<|WL.e 1 rfl<|WL.nil (H0 (L0 (L0 (K0 ?_))))
       obtain rfl : n = 0 := by omega
       obtain rfl : dd = ShaM.blocks ((ShaM.pad S).length / 64) ShaM.first (ShaM.pad S) := hB
       generalize hD : ShaM.blocks ((ShaM.pad S).length / 64) ShaM.first (ShaM.pad S) = dd at *
       have hN := hL.nilRes
       refine C0 (E2 hL 0 rfl underlying216 rfl inf216 rfl rfl) rfl<|WL.e 1 rfl<|Wj<|U3 (σ := Nat × Res × Value) (fun q_ => [(6, q_.2.2), (42, .agg (dd.list.map V32).toArray), (43, .int .i64 (q_.1 : Int))]) (fun q_ w => q_.1 ≤ 8 ∧ Row 5 V8 q_.2.1 q_.2.2 ((dd.list.take q_.1).flatMap ShaM.out4) ∧ St W G (q_.2.1 :: [(b5, .cells ((dd.list).map V32).toArray 216 (0, 0))] :: cs) w) (fun q_ => 8 - q_.1) (⟨0, [], .slice none 0 0⟩) (by repeat (first | exact trivial | refine ⟨rfl, ?_⟩)) (⟨by omega, Row.nil _ _, hN⟩) ?_
       rintro ⟨i, r, v⟩ w19 ⟨hi, hro, hL⟩
       try dsimp only at hi hro hL
       refine WC.sub (s := [(6, v), (42, .agg (dd.list.map V32).toArray), (43, .int .i64 (i : Int))]) (by repeat (first | exact trivial | refine ⟨rfl, ?_⟩)) ?_
       obtain ⟨A, cap, rfl, hcap⟩ := hro.val
       have hlen : ((dd.list.take i).flatMap ShaM.out4).length = 4 * i := by rw [flat_len, List.length_take, list_len]; omega
       refine Wi<|C0 (N1 rfl rfl) rfl<|Wb<|U0 rfl (fun c20 => ?_) (fun c20 => ?_)
       ·try simp only [DD] at c20
        first
        |(exfalso; omega)
        |skip
         refine O0<|H0<|L0<|WC.block<|Wi<|C0 (M4 underlying216 underlying199 rfl inf199 rfl rfl (n := i) rfl (by omega) (u := V32 (dd.list.getD i 0)) (by have : i < dd.list.length := (by rw [list_len]; omega); simp [List.getD_eq_getElem?_getD, List.getElem?_eq_getElem this])) rfl ?_
         refine WL.e 1 rfl<|Wf<|WL.e 2 rfl<|C0 (C4 rfl rfl (by decide)) rfl<|C0 (Runs.to8 underlying199 underlying5 rfl) rfl<|WL.e 1 rfl<|C0 (C4 rfl rfl (by decide)) rfl<|C0 (Runs.to8 underlying199 underlying5 rfl) rfl<|WL.e 1 rfl<|C0 (C4 rfl rfl (by decide)) rfl<|C0 (Runs.to8 underlying199 underlying5 rfl) rfl<|WL.e 1 rfl<|C0 (Runs.to8 underlying199 underlying5 rfl) rfl<|WL.lit (vs := (ShaM.out4 (dd.list.getD i 0)).map V8) hL rfl underlying120 inf5 rfl rfl rfl rfl rfl fun lit58 w21 h21=>J3 (ys := ShaM.out4 (dd.list.getD i 0)) 1 h21 rfl rfl rfl rfl underlying120 underlying120 (.inr ⟨_, rfl⟩) inf5 rfl hro (Src.lit h21 0 rfl rfl rfl) rfl rfl (by first | omega | (simp [lenb_len, flat_len, list_len, ShaM.out4]; done) | (simp [lenb_len, flat_len, list_len, ShaM.out4]; omega)) (by first | omega | (simp [lenb_len, flat_len, list_len, ShaM.out4]; done) | (simp [lenb_len, flat_len, list_len, ShaM.out4]; omega)) ?_
         intro r22 v22 w23 hr22 h23
         simp only [lz, ls] at h23
         replace h23 := h23.drop 0
         simp only [ez, es'] at h23
         refine WL.e 1 rfl<|WL.nil<|WN.blk<|H0<|K0<|C0 (Q0 rfl rfl (by omega)) rfl<|WL.e 1 rfl<|WL.nil<|X0 (⟨i + 1, r22, v22⟩ : Nat × Res × Value) (by show 8 - (i + 1) < 8 - i; omega) ⟨rfl, rfl, rfl, trivial⟩ ⟨by show i + 1 ≤ 8; omega, ?_, h23⟩
         have := hr22
         rwa [← take_flat (by rw [list_len]; omega)] at this
       ·try simp only [DD] at c20
        first
        |(exfalso; omega)
        |skip
         refine WC.exit<|Q1<|WX.cut<|S1<|H0<|Wi<|WL.e 1 rfl ?_
         obtain rfl : i = 8 := by omega
         refine C0 (Y4 (bs := dd.list.flatMap ShaM.out4) underlying120 underlying5 underlying9 rfl (by rfl) (hro.wcell hL (i := 0) rfl rfl)) rfl<|WL.e 1 rfl<|Wg<|ret1 rfl rfl ⟨?_, ((hL.drop 0).drop 0).weak hG1⟩
         rw [show ShaM.of S = dd.list.flatMap ShaM.out4 by unfold ShaM.of; rw [hD]]
theorem inf219 : Inf prog 219 (.agg (List.replicate 64 (.int .u8 0)).toArray) 64 64 := by unfold Inf; kernel_rfl
theorem can177 : B.Can prog 177 := ⟨_, func177, by kernel_rfl, rfl⟩
theorem can178 : B.Can prog 178 := ⟨_, func178, by kernel_rfl, rfl⟩
theorem dl_mk (l : List UInt8) : (⟨l.toArray⟩ : ByteArray).data.toList = l := by simp
theorem dl_app (a b : ByteArray) : (a ++ b).data.toList = a.data.toList ++ b.data.toList := by simp
theorem size_mk (l : List UInt8) : (⟨l.toArray⟩ : ByteArray).size = l.length := by simp [ByteArray.size]
theorem padded_len (k : List UInt8) (b : UInt8) : (ShaM.padded k b).length = 64 := by simp [ShaM.padded]
theorem of_len (s : List UInt8) : (ShaM.of s).length = 32 := by unfold ShaM.of; rw [flat_len]; rfl
def mix {α : Type} (f : α → α) (L : List α) (i : Nat) : List α := (L.map f).take i ++ L.drop i
theorem mix_len {α : Type} (f : α → α) (L : List α) (i : Nat) (h : i ≤ L.length) : (mix f L i).length = L.length := by simp [mix]; omega
theorem mix_at {α : Type} (f : α → α) (L : List α) (d : α) (i : Nat) (h : i < L.length) : (mix f L i).getD i d = L.getD i d := by
 have : ((L.map f).take i).length = i := by simp; omega
 rw [List.getD_eq_getElem?_getD, List.getD_eq_getElem?_getD, mix, List.getElem?_append_right (by omega), this, List.getElem?_drop]
 simp
theorem mix_set {α : Type} (f : α → α) (L : List α) (d : α) (i : Nat) (h : i < L.length) : (mix f L i).set i (f (L.getD i d)) = mix f L (i + 1) := by
 have h1 : ((L.map f).take i).length = i := by simp; omega
 unfold mix
 rw [List.set_append_right _ _ (by omega), h1, Nat.sub_self, List.take_succ_eq_append_getElem (by simpa using h), List.drop_eq_getElem_cons h, List.set_cons_zero]
 simp [List.getD_eq_getElem?_getD, List.getElem?_eq_getElem h]
theorem mix_all {α : Type} (f : α → α) (L : List α) : mix f L L.length = L.map f := by simp [mix, List.take_of_length_le]
def key0 (S : List UInt8) : List UInt8 := S.take 64 ++ List.replicate (64 - S.length) 0
theorem key0_len (S : List UInt8) : (key0 S).length = 64 := by simp [key0]; omega
theorem key0_map (S : List UInt8) (b : UInt8) : (key0 S).map (· ^^^ b) = ShaM.padded S b := by
 apply List.ext_getElem?
 intro i
 by_cases hi : i < 64
 ·have h1 : i < (key0 S).length := by rw [key0_len]; exact hi
  simp only [ShaM.padded, List.getElem?_map, List.getElem?_range hi, Option.map_some, List.getElem?_eq_getElem h1]
  congr 2
  have : (key0 S)[i]? = some (S.getD i 0) := by
   unfold key0
   by_cases hs : i < S.length
   ·rw [List.getElem?_append_left (by simp; omega), List.getElem?_take_of_lt hi, List.getD_eq_getElem?_getD, List.getElem?_eq_getElem hs]; rfl
   ·have e1 : S[i]? = none := List.getElem?_eq_none (by omega)
    rw [List.getElem?_append_right (by simp; omega), List.getD_eq_getElem?_getD, e1, List.length_take, Nat.min_eq_right (by omega), List.getElem?_replicate, if_pos (by omega)]; rfl
  rw [List.getElem?_eq_getElem h1] at this
  exact Option.some.inj this
 ·rw [List.getElem?_eq_none (by simp [key0_len]; omega), List.getElem?_eq_none (by simp [ShaM.padded]; omega)]
theorem first_str {P : Program} (w : World) (s : ByteArray) (n : Nat) : (Builtin.firstCells 1 n (.string s)).run P w = .ok ((s.data.toList.take n).map V8).toArray w := by
 simp only [Builtin.firstCells, Sem.run, pure]
 congr 1
 apply Array.toList_inj.1
 have : (s.extract 0 n).data.toList = s.data.toList.take n := by simp [ByteArray.data_extract]
 simp [this]
theorem blit_key (S : List UInt8) : blit ((List.replicate 64 (0 : UInt8)).map V8).toArray 0 ((S.take (min S.length 64)).map V8) = ((key0 S).map V8).toArray := by
 apply Array.toList_inj.1
 rw [blit_toList _ _ _ (by simp; omega)]
 have e : S.take (min S.length 64) = S.take 64 := by
  rcases Nat.le_total S.length 64 with h | h
  ·rw [Nat.min_eq_left h, List.take_of_length_le (Nat.le_refl _), List.take_of_length_le h]
  ·rw [Nat.min_eq_right h]
 rw [e]
 simp only [List.take_zero, List.nil_append, Nat.zero_add, List.length_map, List.length_take, List.map_replicate, List.drop_replicate, key0, List.map_append]
 congr 2
 omega
theorem padded_c {cs : List Res} (w : World) (s : ByteArray) (by_ : UInt8) (h : St W F cs w) : Calls prog 178 #[.string s, V8 by_] w fun e w' => e = .returned (.string ⟨(ShaM.padded s.data.toList by_).toArray⟩) ∧ St W F cs w'  := by
 refine enter (args := [.string s, V8 by_]) func178 rfl rfl rfl ?_
 obtain ⟨S, hS⟩ : ∃ S, S = s.data.toList := ⟨_, rfl⟩
 have hSl : S.length = s.size := by rw [hS]; simp
 rw [← hS]
 refine Wi<|WL.e 1 rfl<|We<|O1 rfl h inf219 fun b5 w1 h1=>We<|C0 (Runs.asl underlying219 inf5 rfl (l := none) (h := none) rfl rfl okb_no) rfl<|WL.e 1 rfl<|WL.copy (m := s.size) (off := 0) (len := 64) (cap := 64) (src := (S.take (min S.length 64)).map V8) h1 0 rfl rfl underlying120 (inf5.elem rfl rfl) rfl rfl rfl (by rw [hSl]; exact hS ▸ first_str _ s _) (by rw [List.all_eq_true]; intro u hu; obtain ⟨x, _, rfl⟩ := List.mem_map.1 hu; rfl) (Free.zero _) (by simp [Value.cells]; omega) ?_
 intro  w2 h2
 try simp only [ZZ] at h2
 refine Wh<|WL.e 1 rfl<|Wj<|WC.lp (σ := Nat) (fun q_ => [(1, V8 by_), (5, .pointer (some ⟨b5, 0, none⟩)), (10, .int .i64 (q_ : Int))]) (fun q_ w => q_ ≤ 64 ∧ St W F ([(b5, .cells ((mix (· ^^^ by_) (key0 S) q_).map V8).toArray 219 (0, 0))] :: cs) w) (fun q_ => 64 - q_) (0) (⟨by omega, by have e : mix (· ^^^ by_) (key0 S) 0 = key0 S := (by simp [mix]); rw [e, ← blit_key]; exact h2⟩) ?_
 rintro i w3 ⟨hi, hL⟩
 try dsimp only at hi hL
 refine O2 [(1, V8 by_), (5, .pointer (some ⟨b5, 0, none⟩)), (10, .int .i64 (i : Int))]<|Wi<|C0 (N1 rfl rfl) rfl<|Wb<|U0 rfl (fun c4 => ?_) (fun c4 => ?_)
 ·try simp only [DD] at c4
  refine O0<|H0<|L0<|WC.block<|Wi<|WL.e 2 rfl<|Wf<|WL.e 1 rfl<|C0 (H2 underlying219 inf5 rfl rfl (n := i) (by omega) (by omega)) rfl<|C0 (J2 (0 : UInt8) hL 0 rfl (n := i) (by rw [mix_len _ _ _ (by rw [key0_len]; omega), key0_len]; omega) underlying5 rfl rfl) rfl<|WL.e 1 rfl<|C0 (Runs.xor8 rfl rfl) rfl<|C0 (H2 underlying219 inf5 rfl rfl (n := i) (by omega) (by omega)) rfl<|Y3 hL 0 rfl rfl rfl inf5 rfl rfl (Free.zero _) (by rw [mix_len _ _ _ (by rw [key0_len]; omega), key0_len]; omega) ?_
  intro  w5 h5
  try simp only [ZZ] at h5
  refine WL.nil<|WN.blk<|H0<|K0<|C0 (Q0 rfl rfl (by omega)) rfl<|WL.e 1 rfl<|WL.nil<|X0 (i + 1) (by omega) ⟨rfl, rfl, rfl, trivial⟩ ⟨by omega, ?_⟩
  rw [← mix_set (· ^^^ by_) (key0 S) 0 i (by rw [key0_len]; omega), ← mix_at (· ^^^ by_) (key0 S) 0 i (by rw [key0_len]; omega)]
  exact h5
 ·try simp only [DD] at c4
  refine WC.exit<|Q1<|WX.cut<|S1<|H0<|L0<|K0 ?_
  obtain rfl : i = 64 := by omega
  have hm : mix (· ^^^ by_) (key0 S) 64 = ShaM.padded S by_ := by rw [← key0_map, ← mix_all, key0_len]
  rw [hm] at hL
  refine C0 (Runs.asl underlying219 inf5 rfl (l := none) (h := none) rfl rfl okb_no) rfl<|C0 (Y4 (bs := ShaM.padded S by_) underlying120 underlying5 underlying9 rfl (by rw [padded_len]; rfl) (.inr ⟨_, rfl, fun j b hb => by rw [add_mk]; exact hL.ocell (i := 0) rfl (by simp [lo_, hb])⟩)) rfl<|WL.e 1 rfl<|Wg<|ret1 rfl rfl ⟨rfl, hL.drop 0⟩
theorem hmac_c {cs : List Res} (w : World) (key s : ByteArray) (h : St W F cs w) (hk : key.size ≤ 900000) (hs : s.size ≤ 900000) : Calls prog 169 #[.string key, .string s] w fun e w' => e = .returned (.string ⟨(ShaM.hmac key.data.toList s.data.toList).toArray⟩) ∧ St W F cs w'  := by
 refine enter (args := [.string key, .string s]) func169 rfl rfl rfl<|Wi<|WL.e 1 rfl<|Wh<|WL.e 1 rfl<|C0 (N2 underlying9 rfl rfl) rfl<|C0 (X1 rfl rfl) rfl<|Wa<|U0 rfl (fun c1 => ?_) (fun c1 => ?_)
 ·try simp only [DD] at c1
  refine K0<|WL.e 1 rfl<|WL.cv can177 rfl rfl (of_c _ _ h (by first | omega | (simp [ByteArray.size_append, padded_len, of_len, size_mk]; done) | (simp [ByteArray.size_append, padded_len, of_len, size_mk]; omega))) fun w2 h2 =>WL.e 1 rfl<|We<|WL.e 1 rfl<|WL.cv can178 rfl rfl (padded_c _ _ 92 h2) fun w3 h3 =>WL.e 1 rfl<|WL.cv can178 rfl rfl (padded_c _ _ 54 h3) fun w4 h4 =>WL.e 1 rfl<|C0 (Q4 rfl rfl (by simp [padded_len, size_mk]; omega)) rfl<|WL.cv can177 rfl rfl (of_c _ _ h4 (by first | omega | (simp [ByteArray.size_append, padded_len, of_len, size_mk]; done) | (simp [ByteArray.size_append, padded_len, of_len, size_mk]; omega))) fun w5 h5 =>C0 (Q4 rfl rfl (by simp [padded_len, of_len, size_mk])) rfl<|WL.cv can177 rfl rfl (of_c _ _ h5 (by first | omega | (simp [ByteArray.size_append, padded_len, of_len, size_mk]; done) | (simp [ByteArray.size_append, padded_len, of_len, size_mk]; omega))) fun w6 h6 =>WL.e 1 rfl<|Wg<|ret1 rfl rfl ⟨?_, h6⟩
  have hkl : key.data.toList.length = key.size := by simp
  simp only [dl_mk, dl_app, ShaM.hmac, hkl]
  first
  |rw [if_pos (by omega)]
  |rw [if_neg (by omega)]
 ·try simp only [DD] at c1
  refine Wk<|WL.e 1 rfl<|WL.cv can178 rfl rfl (padded_c _ _ 92 h) fun w7 h7 =>WL.e 1 rfl<|WL.cv can178 rfl rfl (padded_c _ _ 54 h7) fun w8 h8 =>WL.e 1 rfl<|C0 (Q4 rfl rfl (by simp [padded_len, size_mk]; omega)) rfl<|WL.cv can177 rfl rfl (of_c _ _ h8 (by first | omega | (simp [ByteArray.size_append, padded_len, of_len, size_mk]; done) | (simp [ByteArray.size_append, padded_len, of_len, size_mk]; omega))) fun w9 h9 =>C0 (Q4 rfl rfl (by simp [padded_len, of_len, size_mk])) rfl<|WL.cv can177 rfl rfl (of_c _ _ h9 (by first | omega | (simp [ByteArray.size_append, padded_len, of_len, size_mk]; done) | (simp [ByteArray.size_append, padded_len, of_len, size_mk]; omega))) fun w10 h10 =>WL.e 1 rfl<|Wg<|ret1 rfl rfl ⟨?_, h10⟩
  have hkl : key.data.toList.length = key.size := by simp
  simp only [dl_mk, dl_app, ShaM.hmac, hkl]
  first
  |rw [if_pos (by omega)]
  |rw [if_neg (by omega)]
theorem inf3 : Inf prog 3 (.int .i64 0) 1 8 := by unfold Inf; kernel_rfl
end Sha
open Wir (Vi mayN)
namespace Cr
theorem node_ge {xs : List Int} {n : Nat} (h : ∀ i, i < n → ndAt xs i) : ∀ i, i < n → (i : Int) ≤ xs.getD i 0
 |0, hi => by
  have := (h 0 hi).1
  have e : lastOf xs 0 = -1 := rfl
  omega
 |i + 1, hi => by
  have h1 := node_ge h i (by omega)
  have h2 := (h (i + 1) hi).1
  have e : lastOf xs (i + 1) = xs.getD i 0 := rfl
  omega
theorem nodes_len {xs : List Int} (h : nodesOk xs) : xs.length ≤ 16 := by
 have h0 := h.2
 have h1 := node_ge h.1 (xs.length - 1) (by omega)
 have h2 := (h.1 (xs.length - 1) (by omega)).2
 omega
end Cr
open Wir (Vi mayN numB listB)
namespace Cr
theorem inf169 : Inf prog 169 (.agg #[.int .i64 0, .int .i64 0, .int .i64 0, .int .i64 0, .int .i64 0, .slice none 0 0, .int .i64 0]) 7 72 := by unfold Inf; kernel_rfl
theorem can76 : B.Can prog 76 := ⟨_, func76, by kernel_rfl, rfl⟩
theorem can80 : B.Can prog 80 := ⟨_, func80, by kernel_rfl, rfl⟩
theorem can175 : B.Can prog 175 := ⟨_, func175, by kernel_rfl, rfl⟩
theorem can176 : B.Can prog 176 := ⟨_, func176, by kernel_rfl, rfl⟩
def numsC (c : C) : List Int := [c.jb, c.ep, c.st, c.fr, c.un, c.co]
def encC (c : C) : List UInt8 := if okC c then (numsC c).flatMap numB ++ listB c.nd else []
theorem encC_y {c : C} (h : okC c) : encC c = (numsC c).flatMap numB ++ listB c.nd := if_pos h
theorem encC_n {c : C} (h : ¬ okC c) : encC c = [] := if_neg h
theorem nums_at (c : C) {k : Nat} (hk : k < 6) : (#[Vi c.jb, Vi c.ep, Vi c.st, Vi c.fr, Vi c.un, Vi c.co])[k]? = some (Vi ((numsC c).getD k 0)) := by
 have : k = 0 ∨ k = 1 ∨ k = 2 ∨ k = 3 ∨ k = 4 ∨ k = 5 := by omega
 rcases this with rfl | rfl | rfl | rfl | rfl | rfl <;> rfl
theorem list_len (xs : List Int) : (listB xs).length ≤ 7 + 7 * xs.length := by
 unfold Wir.listB
 have h1 := Wir.numB_len (xs.length : Int)
 have h2 := Wir.flat_len xs
 split
 ·simp
 ·split
  ·rw [List.length_append]; omega
  ·simp
theorem encC_len {c : C} : (encC c).length ≤ 200 := by
 by_cases h : okC c
 ·rw [encC_y h, List.length_append]
  have h1 := list_len c.nd
  have h2 := Wir.flat_len (numsC c)
  have h3 := nodes_len h.2.2.2.2.2.2
  have h4 : (numsC c).length = 6 := rfl
  omega
 ·rw [encC_n h]; exact Nat.zero_le _
theorem chk_0 {c : C} : checkM c = 0 ↔ okC c := by
 unfold checkM
 by_cases h : okC c
 ·rw [if_pos h]; simp [h]
 ·rw [if_neg h]; simp [h]
theorem encode_c {cs : List Res} (w : World) {A : Option Addr} {cap : Nat} {c : C} (h : St W F cs w) (hR : RdS (Kd.one Vi) F A c.nd) (hn : c.nd.length ≤ 100000) : Calls prog 168 #[.agg #[Vi c.jb, Vi c.ep, Vi c.st, Vi c.fr, Vi c.un, .slice A c.nd.length cap, Vi c.co]] w fun r w' => r = .returned (.string (bs (encC c))) ∧ St W F cs w'  := by
 refine enter (args := [.agg #[Vi c.jb, Vi c.ep, Vi c.st, Vi c.fr, Vi c.un, .slice A c.nd.length cap, Vi c.co]]) func168 rfl rfl rfl<|Wi<|WL.box rfl h rfl fun b1 w1 h1=>WL.e 1 rfl<|Wh<|C0 (E2 h1 0 rfl underlying169 rfl inf169 rfl rfl) rfl<|WL.cv can175 rfl rfl (check_c _ h1 hR (by omega)) fun w2 h2 =>C0 (Z1 rfl rfl) rfl<|Wa<|U0 rfl (fun c3 => ?_) (fun c3 => ?_)
 ·try simp only [DD] at c3
  refine Wi<|WL.e 1 rfl<|Wg<|ret1 rfl rfl ⟨?_, h2.drop 0⟩
  rw [encC_n (fun hh => c3 (chk_0.2 hh))]; rfl
 ·try simp only [DD] at c3
  refine Wk<|WL.e 1 rfl<|Wh<|W0 h2 [0, 0, 0, 0, 0, 0] 12 rfl<|C0 (B2 (vs := [(0, Vi c.jb), (1, Vi c.ep), (2, Vi c.st), (3, Vi c.fr), (4, Vi c.un), (5, Vi c.co)]) (cells := #[Vi c.jb, Vi c.ep, Vi c.st, Vi c.fr, Vi c.un, Vi c.co]) rfl (by kernel_rfl)) rfl<|WL.e 1 rfl<|Wj<|WC.lp (σ := Nat) (fun q_ => [(1, .pointer (some ⟨b1, 0, none⟩)), (3, .string (bs (((numsC c).take q_).flatMap numB))), (21, .agg #[Vi c.jb, Vi c.ep, Vi c.st, Vi c.fr, Vi c.un, Vi c.co]), (22, .int .i64 (q_ : Int))]) (fun q_ w => q_ ≤ 6 ∧ St W F ([(b1, .cells #[Vi c.jb, Vi c.ep, Vi c.st, Vi c.fr, Vi c.un, .slice A c.nd.length cap, Vi c.co] 169 (0, 0))] :: cs) w) (fun q_ => 6 - q_) (0) (⟨Nat.zero_le _, h2⟩) ?_
  rintro k w4 ⟨hk, hL⟩
  try dsimp only at hk hL
  refine O2 [(1, .pointer (some ⟨b1, 0, none⟩)), (3, .string (bs (((numsC c).take k).flatMap numB))), (21, .agg #[Vi c.jb, Vi c.ep, Vi c.st, Vi c.fr, Vi c.un, Vi c.co]), (22, .int .i64 (k : Int))] ?_
  have hfl := Wir.flat_len ((numsC c).take k)
  rw [List.length_take, show (numsC c).length = 6 from rfl] at hfl
  refine Wi<|C0 (N1 rfl rfl) rfl<|Wb<|U0 rfl (fun c5 => ?_) (fun c5 => ?_)
  ·try simp only [DD] at c5
   refine O0<|H0<|L0<|WC.block<|Wi<|C0 (N0 (n := (numsC c).getD k 0) (M4 underlying211 underlying3 rfl inf3 rfl rfl (n := k) rfl (by omega) (u := Vi ((numsC c).getD k 0)) (nums_at c (by omega))) rfl) rfl<|WL.e 1 rfl<|Wf<|WL.e 2 rfl<|WL.cv can76 rfl rfl (Wir.wnum_c _ _ hL) fun w6 h6 =>C0 (Y2 rfl rfl (by have := Wir.numB_len ((numsC c).getD k 0); omega)) rfl<|WL.e 1 rfl<|WL.nil<|WN.blk<|H0<|K0<|C0 (Q0 rfl rfl (by omega)) rfl<|WL.e 1 rfl<|WL.nil<|X0 (k + 1) (by omega) ⟨rfl, (by show some (Value.string _) = some (Value.string _); rw [Wir.flat_take (by show k < 6; omega)]), rfl, rfl, trivial⟩ ⟨by omega, h6⟩
  ·try simp only [DD] at c5
   refine WC.exit<|Q1<|WX.cut<|S1<|H0<|Wi<|W0 hL [0] 3 rfl<|WL.cv can176 rfl rfl (Wir.wlist_c _ hL hR hn) fun w7 h7 =>C0 (Y2 rfl rfl (by have := list_len c.nd; omega)) rfl<|WL.e 1 rfl<|WL.nil (H0 (I1 ?_))
   obtain rfl : k = 6 := by omega
   refine ret1 rfl rfl ⟨?_, h7.drop 0⟩
   rw [encC_y (chk_0.1 (by simpa using c3))]; rfl
end Cr
open Wir (Vi mayN numB listB rdN rdL rdEnd)
namespace Cr
theorem can168 : B.Can prog 168 := ⟨_, func168, by kernel_rfl, rfl⟩
theorem can169 : B.Can prog 169 := ⟨_, func169, by kernel_rfl, rfl⟩
theorem bs_dl (l : List UInt8) : (bs l).data.toList = l := by simp [bs]
theorem hmac_len (k s : List UInt8) : (ShaM.hmac k s).length = 32 := by unfold ShaM.hmac; exact Sha.of_len _
theorem hmac_b {cs : List Res} (w : World) (k s : List UInt8) (h : St W F cs w) (hk : k.length ≤ 900000) (hs : s.length ≤ 900000) : Calls prog 169 #[.string (bs k), .string (bs s)] w fun e w' => e = .returned (.string (bs (ShaM.hmac k s))) ∧ St W F cs w' := by
 have := Sha.hmac_c w (bs k) (bs s) h (by rw [bs_size]; exact hk) (by rw [bs_size]; exact hs)
 rw [bs_dl, bs_dl] at this
 exact this
def signM (k : List UInt8) (c : C) : List UInt8 := if encC c = [] then [] else encC c ++ ShaM.hmac k (encC c)
theorem sign_c {cs : List Res} (w : World) {A : Option Addr} {cap : Nat} {c : C} (k : List UInt8) (hk : k.length ≤ 900000) (h : St W F cs w) (hR : RdS (Kd.one Vi) F A c.nd) (hn : c.nd.length ≤ 100000) : Calls prog 152 #[.string (bs k), .agg #[Vi c.jb, Vi c.ep, Vi c.st, Vi c.fr, Vi c.un, .slice A c.nd.length cap, Vi c.co]] w fun r w' => r = .returned (.string (bs (signM k c))) ∧ St W F cs w'  := by
 refine enter (args := [.string (bs k), .agg #[Vi c.jb, Vi c.ep, Vi c.st, Vi c.fr, Vi c.un, .slice A c.nd.length cap, Vi c.co]]) func152 rfl rfl rfl<|Wi<|WL.box rfl h rfl fun b3 w1 h1=>WL.e 1 rfl<|We<|C0 (E2 h1 0 rfl underlying169 rfl inf169 rfl rfl) rfl<|WL.cv can168 rfl rfl (encode_c _ h1 hR hn) fun w2 h2 =>WL.e 1 rfl<|Wh<|WL.e 1 rfl<|C0 (Runs.lseql rfl rfl) rfl<|Wa<|U0 rfl (fun c3 => ?_) (fun c3 => ?_)
 ·try simp only [DD] at c3
  refine Wi<|WL.e 1 rfl<|Wg<|ret1 rfl rfl ⟨?_, h2.drop 0⟩
  unfold signM
  rw [if_pos (by simpa using c3)]; try rfl
 ·try simp only [DD] at c3
  refine Wk<|WL.e 3 rfl<|WL.cv can169 rfl rfl (hmac_b _ k (encC c) h2 hk (by have := encC_len (c := c); omega)) fun w4 h4 =>C0 (Y2 rfl rfl (by have := encC_len (c := c); have := hmac_len k (encC c); omega)) rfl<|WL.e 1 rfl<|Wg<|ret1 rfl rfl ⟨?_, h4.drop 0⟩
  unfold signM
  rw [if_neg (by simpa using c3)]; try rfl
end Cr
open Dg (S E S0 E0 KS KE chkM settleM readyM overM withM okAll)
open Tal (T TR RR okN)
open Wir (M encB decB mayM mayN numB textB)
open Cr (C signM)
namespace Ct
theorem mixed : prog.follows .mixedOrders = true := by kernel_rfl
abbrev Vi (n : Int) : Value := .int .i64 n
instance (ns : List Int) : Decidable (Tal.oks ns) := decidable_of_iff ((∀ k, k < ns.length → 0 ≤ ns.getD k 0 ∧ ns.getD k 0 < 16) ∧ ∀ k, k < ns.length - 1 → ns.getD k 0 < ns.getD (k + 1) 0) ⟨fun h => ⟨h.1, fun k hk => h.2 k (by omega)⟩, fun h => ⟨h.1, fun k hk => h.2 k (by omega)⟩⟩
instance (ns : List Int) : Decidable (okN ns) := inferInstanceAs (Decidable (_ ∧ _))
structure J where
 ns : List Int
 ss : List S
 id : Int
 ep : Int
 ph : Int
 ft : Int
 cd : Int
 cs : List Int
 ts : List (Option T)
 rd : List Int
 gn : List Int
 ak : Bool
def J.begin (x : J) : J := { x with ph := 0, ft := 0, cd := 0, cs := List.replicate x.ss.length (-1), ts := List.replicate x.ss.length none, rd := [], gn := [] }
def J.fin (x : J) (ft cd : Int) : J := { x with ph := 2, ft := ft, cd := cd }
def cod (ak : Bool) (c : Int) (o : Option T) : Int :=
 if c ≠ -1 then c else match o with
 |none => if ak then 256 else -1
 |some t => if t.state = 2 then 255 else if t.state = 3 then t.code else -1
def seen (ak : Bool) (cs : List Int) (ts : List (Option T)) : List Int := List.zipWith (cod ak) cs ts
def opn1 (ns : List Int) (ts : List (Option T)) (i : Int) : List (Option T) := if (ts.getD i.toNat none).isNone then ts.set i.toNat (some (T.new ns)) else ts
def opnL (ns : List Int) (ts : List (Option T)) (l : List Int) : List (Option T) := l.foldl (opn1 ns) ts
def J.cs' (x : J) : List Int := settleM x.ss (seen x.ak x.cs x.ts)
def J.mid (x : J) : J := { x with cs := x.cs', ts := opnL x.ns x.ts (readyM x.ss x.cs') }
def J.end_ (x : J) : J := if (overM x.ss x.cs).2 = false then x else if x.ak = true ∨ (overM x.ss x.cs).1 ≠ 0 then x.fin 1 (overM x.ss x.cs).1 else x.fin 0 0
def J.look (x : J) : J := x.mid.end_
def J.ask (x : J) : J := { x with ak := true }
def J.cancel (x : J) : J := if x.ph = 1 then x.ask.look else x.ask
def with_ (l : List Int) (n : Int) : List Int := if n ∈ l then l else l ++ [n]
def J.hasR (x : J) (n : Int) : J := { x with rd := with_ x.rd n }
def J.run (x : J) : J := { x with ph := 1 }
def J.started (x : J) (n a : Int) : J :=
 if a = 0 then if (x.hasR n).rd.length = x.ns.length then (x.hasR n).run.look else x.hasR n
 else if x.ep < 3 then x.fin 2 0 else x.fin 1 0
def says (t : T) (m : M) : Int × T := if m.k = 3 then t.vote m.f (decide (m.ar = 1)) else t.exit m.f m.ar
def J.put (x : J) (i : Nat) (t : T) : J := { x with ts := x.ts.set i (some t) }
def J.said (x : J) (m : M) : Bool × J :=
 if (x.ts.length : Int) ≤ m.st then (false, x) else match x.ts.getD m.st.toNat none with
 |none => (false, x)
 |some t => if (says t m).1 ≠ 0 then (false, x) else (true, (x.put m.st.toNat (says t m).2).look)
def J.hasG (x : J) (n : Int) : J := { x with gn := with_ x.gn n }
def J.left (x : J) (n : Int) : J :=
 if (x.hasG n).gn.length < x.ns.length then x.hasG n
 else if x.ft = 2 then { x.hasG n with ep := x.ep + 1 }.begin else { x.hasG n with ph := 3 }
def J.hear (x : J) (m : M) : Bool × J :=
 if m.k = 1 ∧ x.ph = 0 then (true, x.started m.f m.ar)
 else if (m.k = 3 ∨ m.k = 6) ∧ x.ph = 1 then x.said m
 else if m.k = 9 ∧ x.ph = 2 then (true, x.left m.f)
 else (false, x)
def J.mine (x : J) (m : M) : Prop := m.t = -1 ∧ m.ep = x.ep ∧ m.f ∈ x.ns
instance (x : J) (m : M) : Decidable (x.mine m) := inferInstanceAs (Decidable (_ ∧ _ ∧ _))
def newJ (ns : List Int) (ss : List S) (n : Nat) : J := J.begin ⟨ns, ss, (n : Int) + 1, 0, 0, 0, 0, [], [], [], [], false⟩
def wideM (ss : List S) : Bool := ss.any fun s => decide (256 < s.rk * s.per)
def subE (js : List J) (ns : List Int) (ss : List S) : Int := if ¬ okN ns then 1 else if chkM ss ≠ 0 then chkM ss else if wideM ss = true then 1 else if js.length = 16 then 6 else 0
def subM (js : List J) (ns : List Int) (ss : List S) : (Int × Int) × List J := if subE js ns ss = 0 then (((js.length : Int) + 1, 0), js ++ [newJ ns ss js.length]) else ((0, subE js ns ss), js)
def at_ (js : List J) (id : Int) : Option Nat := if id < 1 ∨ (js.length : Int) < id then none else some (id - 1).toNat
def canM (js : List J) (id : Int) : Int × List J := match at_ js id with
 |none => (1, js)
 |some i => match js[i]? with
  |none => (1, js)
  |some x => if 2 ≤ x.ph then (14, js) else (0, js.set i x.cancel)
def delM (js : List J) (l : List UInt8) : Bool × List J := if (decB l).2 ≠ 0 then (false, js) else match at_ js (decB l).1.j with
 |none => (false, js)
 |some i => match js[i]? with
  |none => (false, js)
  |some x => if x.mine (decB l).1 then ((x.hear (decB l).1).1, js.set i (x.hear (decB l).1).2) else (false, js)
def packM (cr : List UInt8) (s : S) : List UInt8 := textB cr ++ numB s.rk ++ numB s.per ++ numB s.ds ++ numB s.lim
def J.cred (x : J) (i : Nat) (now : Int) : C := ⟨x.id, x.ep, i, now, IntKind.i64.wrap (now + 8), x.ns, (x.ss.getD i S0).rk * (x.ss.getD i S0).per⟩
def J.order (x : J) (key : List UInt8) (i : Nat) (now : Int) : List UInt8 := packM (signM key (x.cred i now)) (x.ss.getD i S0)
def J.msg (x : J) (k n : Int) (i : Nat) (tx : List UInt8) : M := ⟨k, -1, n, x.id, x.ep, i, 0, tx⟩
def J.stepO (x : J) (key : List UInt8) (now : Int) (i : Nat) : List M := match x.ts.getD i none with
 |none => []
 |some t =>
  if t.state = 0 then t.missing.map fun n => x.msg 2 n i (x.order key i now)
  else if t.state = 1 then t.missing.flatMap fun n => x.msg 4 n i [] :: (if x.ak = true then [x.msg 7 n i []] else [])
  else if t.state = 2 then x.ns.map fun n => x.msg 5 n i []
  else []
def J.stepsO (x : J) (key : List UInt8) (now : Int) : List M := (List.range x.ts.length).flatMap (x.stepO key now)
def no2 (o : Option T) : Bool := match o with
 |none => false
 |some t => decide (t.state = 2)
def J.abrt (x : J) (n : Int) : List M := ((List.range x.ts.length).filter fun i => no2 (x.ts.getD i none)).map fun i => x.msg 5 n i []
def J.lastO (x : J) : List M := (x.ns.filter fun n => decide (n ∉ x.gn)).flatMap fun n => x.abrt n ++ [x.msg 8 n 0 []]
def J.firstO (x : J) : List M := (x.ns.filter fun n => decide (n ∉ x.rd)).map fun n => x.msg 0 n 0 []
def J.out (x : J) (key : List UInt8) (now : Int) : List M := if x.ph = 0 then x.firstO else if x.ph = 1 then x.stepsO key now else if x.ph = 2 then x.lastO else []
def outM (js : List J) (key : List UInt8) (now : Int) : List (List UInt8) := (js.flatMap fun x => x.out key now).map encB
structure J.ok (x : J) : Prop where
 ns : okN x.ns
 ss : chkM x.ss = 0
 wd : wideM x.ss = false
 id : 1 ≤ x.id ∧ x.id ≤ 16
 ep : 0 ≤ x.ep ∧ x.ep ≤ 3
 rq : x.ft = 2 → x.ep < 3
 ph : 0 ≤ x.ph ∧ x.ph ≤ 3
 lc : x.cs.length = x.ss.length
 lt : x.ts.length = x.ss.length
 cv : ∀ c ∈ x.cs, -1 ≤ c ∧ c ≤ 256
 tv : ∀ t, some t ∈ x.ts → t.ns = x.ns ∧ t.vs.length = t.ns.length ∧ t.cs.length = t.ns.length ∧ ∀ c, some c ∈ t.cs → 0 ≤ c ∧ c ≤ 255
 rn : ∀ n ∈ x.rd, n ∈ x.ns
 gn : ∀ n ∈ x.gn, n ∈ x.ns
theorem mem_zip {α β γ : Type} {f : α → β → γ} : ∀ {l : List α} {m : List β} {c : γ}, c ∈ List.zipWith f l m → ∃ a b, a ∈ l ∧ b ∈ m ∧ c = f a b
 |[], _, c, h => by simp at h
 |a :: l, [], c, h => by simp at h
 |a :: l, b :: m, c, h => by
  rw [List.zipWith_cons_cons, List.mem_cons] at h
  rcases h with h | h
  ·exact ⟨a, b, List.mem_cons_self, List.mem_cons_self, h⟩
  ·obtain ⟨x, y, h1, h2, h3⟩ := mem_zip h
   exact ⟨x, y, List.mem_cons_of_mem _ h1, List.mem_cons_of_mem _ h2, h3⟩
theorem foldl_max_in {P : Int → Prop} : ∀ {l : List Int} {a : Int}, P a → (∀ c ∈ l, P c) → P (l.foldl max a)
 |[], a, ha, _ => ha
 |b :: l, a, ha, h => by
  rw [List.foldl_cons]
  refine foldl_max_in ?_ fun c hc => h c (List.mem_cons_of_mem _ hc)
  rw [Int.max_def]
  split
  ·exact h b List.mem_cons_self
  ·exact ha
structure tok (ns : List Int) (t : T) : Prop where
 ns : t.ns = ns
 lv : t.vs.length = t.ns.length
 lc : t.cs.length = t.ns.length
 ok : ∀ c, some c ∈ t.cs → 0 ≤ c ∧ c ≤ 255
theorem tok.code {ns : List Int} {t : T} (h : tok ns t) : 0 ≤ t.code ∧ t.code ≤ 255 := by
 unfold T.code
 split
 ·omega
 ·have hall : ∀ c ∈ t.cs.map (fun o => Option.getD o 0), 0 ≤ c ∧ c ≤ 255 := fun c hc => by
   obtain ⟨o, ho, rfl⟩ := List.mem_map.1 hc
   cases o with
   |none => exact ⟨by decide, by decide⟩
   |some c => exact h.ok c ho
  revert hall
  generalize t.cs.map (fun o => Option.getD o 0) = l
  intro hall
  cases l with
  |nil => exact ⟨by decide, by decide⟩
  |cons a l => exact foldl_max_in (P := fun c => 0 ≤ c ∧ c ≤ 255) (hall a List.mem_cons_self) fun c hc => hall c (List.mem_cons_of_mem _ hc)
theorem put_len {α : Type} {n : Int} {x : α} : ∀ {ns : List Int} {os : List (Option α)}, (Tal.put n x ns os).length = os.length
 |[], [] => rfl
 |[], _ :: _ => rfl
 |_ :: _, [] => rfl
 |m :: ns, o :: os => by
  unfold Tal.put
  split
  ·rfl
  ·rw [List.length_cons, List.length_cons, put_len]
theorem put_mem {α : Type} {n : Int} {x y : α} : ∀ {ns : List Int} {os : List (Option α)}, some y ∈ Tal.put n x ns os → y = x ∨ some y ∈ os
 |[], [], h => .inr h
 |[], _ :: _, h => .inr h
 |_ :: _, [], h => .inr h
 |m :: ns, o :: os, h => by
  unfold Tal.put at h
  split at h
  ·rcases List.mem_cons.1 h with h | h
   ·exact .inl (Option.some.inj h)
   ·exact .inr (List.mem_cons_of_mem _ h)
  ·rcases List.mem_cons.1 h with h | h
   ·exact .inr (h ▸ List.mem_cons_self)
   ·rcases put_mem h with h | h
    ·exact .inl h
    ·exact .inr (List.mem_cons_of_mem _ h)
theorem say_len {α : Type} [DecidableEq α] {ns : List Int} {os : List (Option α)} {n : Int} {x : α} {b : Bool} : (Tal.say ns os n x b).2.length = os.length := by
 unfold Tal.say
 split
 ·rfl
 ·split <;> rfl
 ·split
  ·exact put_len
  ·rfl
theorem say_mem {α : Type} [DecidableEq α] {ns : List Int} {os : List (Option α)} {n : Int} {x y : α} {b : Bool} (h : some y ∈ (Tal.say ns os n x b).2) : y = x ∨ some y ∈ os := by
 unfold Tal.say at h
 split at h
 ·exact .inr h
 ·split at h <;> exact .inr h
 ·split at h
  ·exact put_mem h
  ·exact .inr h
theorem tok.vote {ns : List Int} {t : T} (h : tok ns t) (n : Int) (b : Bool) : tok ns (t.vote n b).2 := ⟨h.ns, say_len.trans h.lv, h.lc, h.ok⟩
theorem tok.exit {ns : List Int} {t : T} (h : tok ns t) (n c : Int) : tok ns (t.exit n c).2 := by
 unfold T.exit
 split
 ·exact h
 ·rename_i hc
  refine ⟨h.ns, h.lv, say_len.trans h.lc, fun d hd => ?_⟩
  rcases say_mem hd with rfl | hd
  ·omega
  ·exact h.ok d hd
theorem tok.says {ns : List Int} {t : T} (h : tok ns t) (m : M) : tok ns (says t m).2 := by
 unfold Ct.says
 split
 ·exact h.vote _ _
 ·exact h.exit _ _
theorem tok.new (ns : List Int) : tok ns (T.new ns) := ⟨rfl, by simp [T.new], by simp [T.new], fun c hc => by simp [T.new] at hc⟩
theorem J.ok.tk {x : J} (h : x.ok) {t : T} (ht : some t ∈ x.ts) : tok x.ns t := ⟨(h.tv t ht).1, (h.tv t ht).2.1, (h.tv t ht).2.2.1, (h.tv t ht).2.2.2⟩
theorem tok.tv {ns : List Int} {t : T} (h : tok ns t) : t.ns = ns ∧ t.vs.length = t.ns.length ∧ t.cs.length = t.ns.length ∧ ∀ c, some c ∈ t.cs → 0 ≤ c ∧ c ≤ 255 := ⟨h.ns, h.lv, h.lc, h.ok⟩
theorem seen_len {ak : Bool} {cs : List Int} {ts : List (Option T)} (h : ts.length = cs.length) : (seen ak cs ts).length = cs.length := by
 unfold seen
 rw [List.length_zipWith, h, Nat.min_self]
theorem seen_vals {x : J} (h : x.ok) : ∀ c ∈ seen x.ak x.cs x.ts, -1 ≤ c ∧ c ≤ 256 := fun c hc => by
 obtain ⟨a, o, h1, h2, rfl⟩ := mem_zip hc
 have := h.cv a h1
 unfold cod
 split
 ·exact this
 ·split
  ·split <;> omega
  ·have := (h.tk h2).code
   split
   ·omega
   ·split <;> omega
theorem J.ok.with0 {x : J} (h : x.ok) : withM x.ss (seen x.ak x.cs x.ts) = 0 := Dg.with_of h.ss ((seen_len (h.lt.trans h.lc.symm)).trans h.lc) (seen_vals h)
theorem J.ok.len' {x : J} (h : x.ok) : x.cs'.length = x.ss.length := (Dg.settle_spec h.with0).1.1.symm.trans ((seen_len (h.lt.trans h.lc.symm)).trans h.lc)
theorem J.ok.vals' {x : J} (h : x.ok) : ∀ c ∈ x.cs', -1 ≤ c ∧ c ≤ 256 := (Dg.settle_spec h.with0).1.vals (seen_vals h)
theorem opn1_len (ns : List Int) (ts : List (Option T)) (i : Int) : (opn1 ns ts i).length = ts.length := by
 unfold opn1
 split
 ·exact List.length_set
 ·rfl
theorem opnL_len (ns : List Int) : ∀ (l : List Int) (ts : List (Option T)), (opnL ns ts l).length = ts.length
 |[], ts => rfl
 |i :: l, ts => (opnL_len ns l _).trans (opn1_len ns ts i)
theorem opn1_mem {ns : List Int} {ts : List (Option T)} {i : Int} {t : T} (h : some t ∈ opn1 ns ts i) : some t ∈ ts ∨ t = T.new ns := by
 unfold opn1 at h
 split at h
 ·rcases List.mem_or_eq_of_mem_set h with h | h
  ·exact .inl h
  ·exact .inr (Option.some.inj h)
 ·exact .inl h
theorem opnL_mem {ns : List Int} {t : T} : ∀ {l : List Int} {ts : List (Option T)}, some t ∈ opnL ns ts l → some t ∈ ts ∨ t = T.new ns
 |[], ts, h => .inl h
 |i :: l, ts, h => by
  rcases opnL_mem (l := l) h with h | h
  ·exact opn1_mem h
  ·exact .inr h
theorem J.ok.mid {x : J} (h : x.ok) : x.mid.ok := ⟨h.ns, h.ss, h.wd, h.id, h.ep, h.rq, h.ph, h.len', (opnL_len _ _ _).trans h.lt, h.vals', fun t ht => by
 rcases opnL_mem ht with ht | rfl
 ·exact h.tv t ht
 ·exact (tok.new _).tv, h.rn, h.gn⟩
theorem J.ok.fin {x : J} (h : x.ok) {ft cd : Int} (hf : ft = 2 → x.ep < 3) : (x.fin ft cd).ok := ⟨h.ns, h.ss, h.wd, h.id, h.ep, hf, (show (0 : Int) ≤ 2 ∧ (2 : Int) ≤ 3 by decide), h.lc, h.lt, h.cv, h.tv, h.rn, h.gn⟩
theorem J.ok.end_ {x : J} (h : x.ok) : x.end_.ok := by
 unfold J.end_
 split
 ·exact h
 ·split
  ·exact h.fin (fun e => absurd e (by decide))
  ·exact h.fin (fun e => absurd e (by decide))
theorem J.ok.look {x : J} (h : x.ok) : x.look.ok := h.mid.end_
theorem J.ok.ask {x : J} (h : x.ok) : x.ask.ok := ⟨h.ns, h.ss, h.wd, h.id, h.ep, h.rq, h.ph, h.lc, h.lt, h.cv, h.tv, h.rn, h.gn⟩
theorem with_mem {l : List Int} {n a : Int} (h : a ∈ with_ l n) : a ∈ l ∨ a = n := by
 unfold with_ at h
 split at h
 ·exact .inl h
 ·rcases List.mem_append.1 h with h | h
  ·exact .inl h
  ·exact .inr (List.mem_singleton.1 h)
theorem J.ok.hasR {x : J} (h : x.ok) {n : Int} (hn : n ∈ x.ns) : (x.hasR n).ok := ⟨h.ns, h.ss, h.wd, h.id, h.ep, h.rq, h.ph, h.lc, h.lt, h.cv, h.tv, fun a ha => by
 rcases with_mem ha with ha | rfl
 ·exact h.rn a ha
 ·exact hn, h.gn⟩
theorem J.ok.hasG {x : J} (h : x.ok) {n : Int} (hn : n ∈ x.ns) : (x.hasG n).ok := ⟨h.ns, h.ss, h.wd, h.id, h.ep, h.rq, h.ph, h.lc, h.lt, h.cv, h.tv, h.rn, fun a ha => by
 rcases with_mem ha with ha | rfl
 ·exact h.gn a ha
 ·exact hn⟩
theorem J.ok.run {x : J} (h : x.ok) : x.run.ok := ⟨h.ns, h.ss, h.wd, h.id, h.ep, h.rq, (show (0 : Int) ≤ 1 ∧ (1 : Int) ≤ 3 by decide), h.lc, h.lt, h.cv, h.tv, h.rn, h.gn⟩
theorem J.ok.started {x : J} (h : x.ok) {n a : Int} (hn : n ∈ x.ns) : (x.started n a).ok := by
 unfold J.started
 split
 ·split
  ·exact (h.hasR hn).run.look
  ·exact h.hasR hn
 ·split
  ·rename_i h3
   exact h.fin fun _ => h3
  ·exact h.fin (fun e => absurd e (by decide))
theorem J.ok.put {x : J} (h : x.ok) {i : Nat} {t : T} (ht : tok x.ns t) : (x.put i t).ok := ⟨h.ns, h.ss, h.wd, h.id, h.ep, h.rq, h.ph, h.lc, List.length_set.trans h.lt, h.cv, fun u hu => by
 rcases List.mem_or_eq_of_mem_set hu with hu | hu
 ·exact h.tv u hu
 ·obtain rfl := Option.some.inj hu
  exact ht.tv, h.rn, h.gn⟩
theorem getD_mem {α : Type} {l : List α} {i : Nat} {d : α} (h : i < l.length) : l.getD i d ∈ l := by
 rw [List.getD_eq_getElem?_getD, List.getElem?_eq_getElem h]
 exact List.getElem_mem h
theorem J.ok.said {x : J} (h : x.ok) (m : M) : (x.said m).2.ok := by
 unfold J.said
 split
 ·exact h
 ·split
  ·exact h
  ·rename_i t ht
   split
   ·exact h
   ·have hlt : m.st.toNat < x.ts.length := Classical.byContradiction fun hh => by
     rw [List.getD_eq_getElem?_getD, List.getElem?_eq_none (by omega)] at ht
     cases ht
    exact (h.put ((h.tk (ht ▸ getD_mem hlt)).says m)).look
theorem J.ok.begin {x : J} (h : okN x.ns ∧ chkM x.ss = 0 ∧ wideM x.ss = false ∧ (1 ≤ x.id ∧ x.id ≤ 16) ∧ 0 ≤ x.ep ∧ x.ep ≤ 3) : x.begin.ok := by
 refine ⟨h.1, h.2.1, h.2.2.1, h.2.2.2.1, h.2.2.2.2, fun e => absurd e (by show ¬ (0 : Int) = 2; decide), (show (0 : Int) ≤ 0 ∧ (0 : Int) ≤ 3 by decide), List.length_replicate, List.length_replicate, ?_, ?_, ?_, ?_⟩
 ·intro c hc
  rw [(List.mem_replicate.1 hc).2]
  exact ⟨by decide, by decide⟩
 ·intro t ht
  cases (List.mem_replicate.1 ht).2
 ·intro n hn
  cases hn
 ·intro n hn
  cases hn
theorem J.ok.left {x : J} (h : x.ok) {n : Int} (hn : n ∈ x.ns) : (x.left n).ok := by
 unfold J.left
 split
 ·exact h.hasG hn
 ·split
  ·rename_i h2
   have h3 := h.rq h2
   have h4 := h.ep
   exact J.ok.begin (x := { x.hasG n with ep := x.ep + 1 }) ⟨h.ns, h.ss, h.wd, h.id, by show 0 ≤ x.ep + 1; omega, by show x.ep + 1 ≤ 3; omega⟩
  ·have := h.hasG hn
   exact ⟨this.ns, this.ss, this.wd, this.id, this.ep, this.rq, (show (0 : Int) ≤ 3 ∧ (3 : Int) ≤ 3 by decide), this.lc, this.lt, this.cv, this.tv, this.rn, this.gn⟩
theorem J.ok.hear {x : J} (h : x.ok) {m : M} (hm : x.mine m) : (x.hear m).2.ok := by
 unfold J.hear
 split
 ·exact h.started hm.2.2
 ·split
  ·exact h.said m
  ·split
   ·exact h.left hm.2.2
   ·exact h
theorem newJ_ok {js : List J} {ns : List Int} {ss : List S} (h : subE js ns ss = 0) (hl : js.length ≤ 16) : (newJ ns ss js.length).ok := by
 unfold subE at h
 split at h
 ·cases h
 ·rename_i h1
  split at h
  ·exact absurd h ‹_›
  ·rename_i h2
   split at h
   ·cases h
   ·rename_i h3
    split at h
    ·cases h
    ·exact J.ok.begin ⟨Decidable.of_not_not h1, Decidable.of_not_not h2, by simpa using h3, ⟨by show (1 : Int) ≤ (js.length : Int) + 1; omega, by show (js.length : Int) + 1 ≤ 16; omega⟩, by show (0 : Int) ≤ 0; decide, by show (0 : Int) ≤ 3; decide⟩
theorem St.flat {W w : World} {F : Snap} {cs cs' : List Res} (h : St W F cs w) (e : List.Perm cs'.flatten cs.flatten) : St W F cs' w :=
 ⟨h.bel, h.imm, fun p hp => h.own p (e.subset hp), ((e.map (·.1)).nodup_iff).2 h.nd⟩
theorem flat_set {cs : List Res} {i : Nat} {r r' : Res} (hi : cs[i]? = some r) : List.Perm (r' :: cs).flatten (r :: cs.set i r').flatten := by
 obtain ⟨l1, l2, e1, e2, _⟩ := split_at cs i r hi
 rw [e2 r', e1]
 simp only [List.flatten_cons, List.flatten_append]
 refine List.Perm.trans ?_ (List.perm_append_comm_assoc _ _ _)
 refine (List.perm_append_comm_assoc _ _ _).trans<|List.Perm.append_left _<|List.perm_append_comm_assoc _ _ _
theorem St.in_ {W w : World} {F : Snap} {cs : List Res} {r : Res} {i : Nat} (h : St W F (r :: cs) w) (hi : cs[i]? = some []) : St W F (cs.set i r) w := St.flat h (by
 have := flat_set (r' := r) hi
 simpa using this.symm)
theorem St.out {W w : World} {F : Snap} {cs : List Res} {r : Res} {i : Nat} (h : St W F cs w) (hi : cs[i]? = some r) : St W F (r :: cs.set i []) w := St.flat h (by
 have := flat_set (r' := []) hi
 simpa using this.symm)
def pv (o : Option Nat) : Value := .pointer (o.map fun b => ⟨b, 0, none⟩)
structure TalsR (Q : Snap → Res → Res → Nat → T → Prop) (F : Snap) (ts : List (Option T)) (ps : List (Option Nat)) (tm : List Res) : Prop where
 lp : ps.length = ts.length
 lm : tm.length = 2 * ts.length
 no : ∀ i, i < ts.length → ts.getD i none = none → ps.getD i none = none ∧ tm[2 * i]? = some [] ∧ tm[2 * i + 1]? = some []
 ye : ∀ i t, ts.getD i none = some t → ∃ b r1 r2, ps.getD i none = some b ∧ tm[2 * i]? = some r1 ∧ tm[2 * i + 1]? = some r2 ∧ Q F r1 r2 b t
theorem TalsR.mono {Q : Snap → Res → Res → Nat → T → Prop} {F G : Snap} {ts : List (Option T)} {ps : List (Option Nat)} {tm : List Res} (hq : ∀ r1 r2 b t, Q F r1 r2 b t → Q G r1 r2 b t) (h : TalsR Q F ts ps tm) : TalsR Q G ts ps tm := ⟨h.lp, h.lm, h.no, fun i t ht => by
 obtain ⟨b, r1, r2, h1, h2, h3, h4⟩ := h.ye i t ht
 exact ⟨b, r1, r2, h1, h2, h3, hq _ _ _ _ h4⟩⟩
theorem getD_set {α : Type} (l : List α) (i j : Nat) (v d : α) : (l.set i v).getD j d = if i = j ∧ j < l.length then v else l.getD j d := by
 simp only [List.getD_eq_getElem?_getD, List.getElem?_set]
 by_cases e : i = j
 ·subst e
  by_cases hl : i < l.length
  ·simp [hl]
  ·simp [hl]
 ·simp [e]
theorem getD_lt {α : Type} {l : List (Option α)} {i : Nat} {a : α} (h : l.getD i none = some a) : i < l.length := Classical.byContradiction fun hh => by
 rw [List.getD_eq_getElem?_getD, List.getElem?_eq_none (by omega)] at h
 cases h
theorem TalsR.put {Q : Snap → Res → Res → Nat → T → Prop} {F : Snap} {ts : List (Option T)} {ps : List (Option Nat)} {tm : List Res} (h : TalsR Q F ts ps tm) {i b : Nat} {t : T} {r1 r2 : Res} (hi : i < ts.length) (hq : Q F r1 r2 b t) : TalsR Q F (ts.set i (some t)) (ps.set i (some b)) ((tm.set (2 * i) r1).set (2 * i + 1) r2) := by
 have hlm := h.lm
 have hlp := h.lp
 refine ⟨by rw [List.length_set, List.length_set]; exact hlp, by rw [List.length_set, List.length_set, List.length_set]; exact hlm, fun j hj hn => ?_, fun j u hu => ?_⟩
 ·rw [List.length_set] at hj
  rw [getD_set] at hn
  split at hn
  ·cases hn
  ·rename_i hne
   have e : i ≠ j := fun e => hne ⟨e, hj⟩
   obtain ⟨h1, h2, h3⟩ := h.no j hj hn
   rw [getD_set, if_neg (fun hh => e hh.1), List.getElem?_set_ne (by omega), List.getElem?_set_ne (by omega), List.getElem?_set_ne (by omega), List.getElem?_set_ne (by omega)]
   exact ⟨h1, h2, h3⟩
 ·rw [getD_set] at hu
  split at hu
  ·rename_i he
   obtain ⟨rfl, _⟩ := he
   obtain rfl := Option.some.inj hu
   refine ⟨b, r1, r2, ?_, ?_, ?_, hq⟩
   ·rw [getD_set, if_pos ⟨rfl, by omega⟩]
   ·rw [List.getElem?_set_ne (by omega), List.getElem?_set_self (by omega)]
   ·rw [List.getElem?_set_self (by rw [List.length_set]; omega)]
  ·rename_i hne
   have hj := getD_lt hu
   have e : i ≠ j := fun e => hne ⟨e, hj⟩
   obtain ⟨b', q1, q2, h1, h2, h3, h4⟩ := h.ye j u hu
   refine ⟨b', q1, q2, ?_, ?_, ?_, h4⟩
   ·rw [getD_set, if_neg (fun hh => e hh.1)]; exact h1
   ·rw [List.getElem?_set_ne (by omega), List.getElem?_set_ne (by omega)]; exact h2
   ·rw [List.getElem?_set_ne (by omega), List.getElem?_set_ne (by omega)]; exact h3
theorem set_same {α : Type} : ∀ {l : List α} {i : Nat} {a d : α}, i < l.length → l.getD i d = a → l.set i a = l
 |b :: l, 0, a, d, _, h => by
  have : b = a := h
  rw [this]; rfl
 |b :: l, i + 1, a, d, hl, h => by
  have h2 : l.getD i d = a := h
  have hl2 : i < l.length := by simpa using hl
  show b :: l.set i a = b :: l
  rw [set_same hl2 h2]
theorem TalsR.new {Q : Snap → Res → Res → Nat → T → Prop} {F : Snap} (n : Nat) : TalsR Q F (List.replicate n none) (List.replicate n none) (List.replicate (2 * n) []) := ⟨by simp, by simp, fun i hi _ => ⟨by rw [List.getD_eq_getElem?_getD, List.getElem?_replicate]; split <;> rfl, by simp at hi; rw [List.getElem?_replicate, if_pos (by omega)], by simp at hi; rw [List.getElem?_replicate, if_pos (by omega)]⟩, fun i t ht => by
 rw [List.getD_eq_getElem?_getD, List.getElem?_replicate] at ht
 split at ht <;> cases ht⟩
def QP (F : Snap) (r1 r2 : Res) (b : Nat) (t : T) : Prop := ∃ mv mc lv lc, TR F [r1, r2] b 0 1 mv mc lv lc t
theorem QP.mono {F G : Snap} (hle : Le F G) {r1 r2 : Res} {b : Nat} {t : T} (h : QP F r1 r2 b t) : QP G r1 r2 b t := by
 obtain ⟨mv, mc, lv, lc, h⟩ := h
 exact ⟨mv, mc, lv, lc, h.mono hle⟩
theorem TR.at2 {F : Snap} {r1 r2 : Res} {cs : List Res} {bt i j mv mc : Nat} {lv lc : List (Int × Value)} {t : T} (h : TR F [r1, r2] bt 0 1 mv mc lv lc t) (h1 : cs[i]? = some r1) (h2 : cs[j]? = some r2) (hne : i ≠ j) : TR F cs bt i j mv mc lv lc t :=
 ⟨h.s0, h.s1, h.s2, h1.trans h.iv, h2.trans h.ic, h.rv, h.rc, h.pos, h.small, h.nd, hne⟩
theorem TR.two {F : Snap} {cs : List Res} {bt i j mv mc : Nat} {lv lc : List (Int × Value)} {t : T} (h : TR F cs bt i j mv mc lv lc t) : QP F [(mv, mobj lv)] [(mc, mobj lc)] bt t :=
 ⟨mv, mc, lv, lc, h.s0, h.s1, h.s2, rfl, rfl, h.rv, h.rc, h.pos, h.small, h.nd, by decide⟩
structure JobO (F : Snap) (x : J) (A B : Option Addr) (ps : List (Option Nat)) (zc zt : List Value) (fc ft : Nat × Nat) (l1 l2 : List (Int × Value)) (tm : List Res) : Prop where
 nd : RdS (Kd.one Vi) F A x.ns
 st : RdS KS F B x.ss
 fc : Free fc (x.cs.length + zc.length)
 ft : Free ft (ps.length + zt.length)
 ta : TalsR QP F x.ts ps tm
 r1 : l1.map (·.1) = x.rd
 r2 : l2.map (·.1) = x.gn
theorem JobO.mono {F G : Snap} (hle : Le F G) {x : J} {A B : Option Addr} {ps : List (Option Nat)} {zc zt : List Value} {fc ft : Nat × Nat} {l1 l2 : List (Int × Value)} {tm : List Res} (h : JobO F x A B ps zc zt fc ft l1 l2 tm) : JobO G x A B ps zc zt fc ft l1 l2 tm :=
 ⟨h.nd.mono hle, h.st.mono hle, h.fc, h.ft, h.ta.mono (fun _ _ _ _ => QP.mono hle), h.r1, h.r2⟩
abbrev vC (x : J) (bC : Nat) (zc : List Value) : Value := .slice (some ⟨bC, 0, none⟩) x.cs.length (x.cs.length + zc.length)
abbrev vT (ps : List (Option Nat)) (bT : Nat) (zt : List Value) : Value := .slice (some ⟨bT, 0, none⟩) ps.length (ps.length + zt.length)
abbrev jB (x : J) (b bC bT m1 m2 : Nat) (A B : Option Addr) (cap cap2 : Nat) (ps : List (Option Nat)) (zc zt : List Value) : Res := [(b, .cells #[.slice A x.ns.length cap, .slice B x.ss.length cap2, Vi x.id, Vi x.ep, Vi x.ph, Vi x.ft, Vi x.cd, vC x bC zc, vT ps bT zt, .map (some m1), .map (some m2), .bool x.ak] 83 (0, 0))]
abbrev cB (cs : List Int) (bC : Nat) (zc : List Value) (fc : Nat × Nat) : Res := [(bC, .cells (cs.map Vi ++ zc).toArray 3 fc)]
abbrev tB (ps : List (Option Nat)) (bT : Nat) (zt : List Value) (ft : Nat × Nat) : Res := [(bT, .cells (ps.map pv ++ zt).toArray 97 ft)]
def JobR (F : Snap) (r : Res) (b : Nat) (x : J) : Prop := ∃ bC bT m1 m2 A B cap cap2 ps zc zt fc ft l1 l2 tm, r = (jB x b bC bT m1 m2 A B cap cap2 ps zc zt :: cB x.cs bC zc fc :: tB ps bT zt ft :: [(m1, mobj l1)] :: [(m2, mobj l2)] :: tm).flatten ∧ JobO F x A B ps zc zt fc ft l1 l2 tm
theorem JobR.mono {F G : Snap} (hle : Le F G) {r : Res} {b : Nat} {x : J} (h : JobR F r b x) : JobR G r b x := by
 obtain ⟨bC, bT, m1, m2, A, B, cap, cap2, ps, zc, zt, fc, ft, l1, l2, tm, h1, h2⟩ := h
 exact ⟨bC, bT, m1, m2, A, B, cap, cap2, ps, zc, zt, fc, ft, l1, l2, tm, h1, h2.mono hle⟩
theorem JobR.open_ {W w : World} {F : Snap} {cs : List Res} {r : Res} {b : Nat} {x : J} (h : St W F (r :: cs) w) (hJ : JobR F r b x) : ∃ bC bT m1 m2 A B cap cap2 ps zc zt fc ft l1 l2 tm, St W F (jB x b bC bT m1 m2 A B cap cap2 ps zc zt :: cB x.cs bC zc fc :: tB ps bT zt ft :: [(m1, mobj l1)] :: [(m2, mobj l2)] :: (tm ++ cs)) w ∧ JobO F x A B ps zc zt fc ft l1 l2 tm := by
 obtain ⟨bC, bT, m1, m2, A, B, cap, cap2, ps, zc, zt, fc, ft, l1, l2, tm, rfl, h2⟩ := hJ
 exact ⟨bC, bT, m1, m2, A, B, cap, cap2, ps, zc, zt, fc, ft, l1, l2, tm, St.flat h (by simp), h2⟩
theorem JobR.close {W w : World} {F : Snap} {cs : List Res} {x : J} {b bC bT m1 m2 : Nat} {A B : Option Addr} {cap cap2 : Nat} {ps : List (Option Nat)} {zc zt : List Value} {fc ft : Nat × Nat} {l1 l2 : List (Int × Value)} {tm : List Res} (h : St W F (jB x b bC bT m1 m2 A B cap cap2 ps zc zt :: cB x.cs bC zc fc :: tB ps bT zt ft :: [(m1, mobj l1)] :: [(m2, mobj l2)] :: (tm ++ cs)) w) (hO : JobO F x A B ps zc zt fc ft l1 l2 tm) : ∃ r, JobR F r b x ∧ St W F (r :: cs) w :=
 ⟨_, ⟨bC, bT, m1, m2, A, B, cap, cap2, ps, zc, zt, fc, ft, l1, l2, tm, rfl, hO⟩, St.flat h (by simp)⟩
theorem inf3 : Inf prog 3 (.int .i64 0) 1 8 := by unfold Inf; kernel_rfl
theorem can139 : B.Can prog 139 := ⟨_, func139, by kernel_rfl, rfl⟩
theorem can161 : B.Can prog 161 := ⟨_, func161, by kernel_rfl, rfl⟩
def rp (n k : Nat) : List Value := List.replicate k (Vi (-1)) ++ List.replicate (n - k) (Vi 0)
theorem rp_size (n k : Nat) (hk : k ≤ n) : (rp n k).toArray.size = n := by simp [rp]; omega
theorem rp_take {n k m : Nat} (hm : m ≤ k) : (rp n k).toArray.toList.take m = List.replicate m (Vi (-1)) := by
 unfold rp
 rw [List.take_append_of_le_length (by simp; exact hm), List.take_replicate, Nat.min_eq_left hm]
theorem rp_blit {n k m : Nat} (hm : k + m ≤ n) : blit (rp n k).toArray k (List.replicate m (Vi (-1))) = (rp n (k + m)).toArray := by
 apply Array.toList_inj.1
 rw [blit_toList _ _ _ (by rw [rp_size n k (by omega), List.length_replicate]; exact hm), List.length_replicate, rp_take (Nat.le_refl k)]
 show _ ++ _ ++ (rp n k).drop (k + m) = rp n (k + m)
 unfold rp
 rw [List.drop_append, List.length_replicate, List.drop_of_length_le (by simp), List.nil_append, List.drop_replicate, show k + m - k = m by omega, List.replicate_append_replicate, show n - k - m = n - (k + m) by omega]
theorem mul64_c {cs : List Res} (w : World) (n : Nat) (h : St W F cs w) (hn : n ≤ 16)  : Calls prog 161 #[.int .u64 1, .int .u64 (n : Int)] w fun e w' => e = .returned (.tuple #[.int .u64 0, .int .u64 (n : Int)]) ∧ St W F cs w'  := by
 refine enter (args := [.int .u64 1, .int .u64 (n : Int)]) func161 rfl rfl rfl ?_
 have hn17 : n = 0 ∨ n = 1 ∨ n = 2 ∨ n = 3 ∨ n = 4 ∨ n = 5 ∨ n = 6 ∨ n = 7 ∨ n = 8 ∨ n = 9 ∨ n = 10 ∨ n = 11 ∨ n = 12 ∨ n = 13 ∨ n = 14 ∨ n = 15 ∨ n = 16 := by omega
 refine Wi<|WL.e 2 rfl<|We<|WL.e 1 rfl ?_
 refine C0 (N0 (n := 1) (Runs.and rfl rfl) (by first | rfl | (rcases hn17 with rfl | rfl | rfl | rfl | rfl | rfl | rfl | rfl | rfl | rfl | rfl | rfl | rfl | rfl | rfl | rfl | rfl <;> decide))) rfl ?_
 refine WL.e 1 rfl<|We<|WL.e 1 rfl ?_
 refine C0 (N0 (n := 0) (E4 rfl rfl (by omega)) (by first | rfl | (rcases hn17 with rfl | rfl | rfl | rfl | rfl | rfl | rfl | rfl | rfl | rfl | rfl | rfl | rfl | rfl | rfl | rfl | rfl <;> decide))) rfl ?_
 refine WL.e 1 rfl<|We<|WL.e 1 rfl ?_
 refine C0 (N0 (n := (n : Int)) (Runs.and rfl rfl) (by first | rfl | (rcases hn17 with rfl | rfl | rfl | rfl | rfl | rfl | rfl | rfl | rfl | rfl | rfl | rfl | rfl | rfl | rfl | rfl | rfl <;> decide))) rfl ?_
 refine WL.e 1 rfl<|We<|WL.e 1 rfl ?_
 refine C0 (N0 (n := 0) (E4 rfl rfl (by omega)) (by first | rfl | (rcases hn17 with rfl | rfl | rfl | rfl | rfl | rfl | rfl | rfl | rfl | rfl | rfl | rfl | rfl | rfl | rfl | rfl | rfl <;> decide))) rfl ?_
 refine WL.e 1 rfl<|We<|WL.e 2 rfl ?_
 refine C0 (N0 (n := (n : Int)) (O4 rfl rfl) (by first | rfl | (rcases hn17 with rfl | rfl | rfl | rfl | rfl | rfl | rfl | rfl | rfl | rfl | rfl | rfl | rfl | rfl | rfl | rfl | rfl <;> decide))) rfl ?_
 refine WL.e 1 rfl<|We<|WL.e 2 rfl ?_
 refine C0 (N0 (n := 0) (O4 rfl rfl) (by first | rfl | (rcases hn17 with rfl | rfl | rfl | rfl | rfl | rfl | rfl | rfl | rfl | rfl | rfl | rfl | rfl | rfl | rfl | rfl | rfl <;> decide))) rfl ?_
 refine WL.e 1 rfl ?_
 refine C0 (N0 (n := 0) (E4 rfl rfl (by omega)) (by first | rfl | (rcases hn17 with rfl | rfl | rfl | rfl | rfl | rfl | rfl | rfl | rfl | rfl | rfl | rfl | rfl | rfl | rfl | rfl | rfl <;> decide))) rfl ?_
 refine C0 (N0 (n := 0) (Runs.add rfl rfl) (by first | rfl | (rcases hn17 with rfl | rfl | rfl | rfl | rfl | rfl | rfl | rfl | rfl | rfl | rfl | rfl | rfl | rfl | rfl | rfl | rfl <;> decide))) rfl ?_
 refine WL.e 1 rfl<|We<|WL.e 1 rfl ?_
 refine C0 (N0 (n := 0) (Runs.and rfl rfl) (by first | rfl | (rcases hn17 with rfl | rfl | rfl | rfl | rfl | rfl | rfl | rfl | rfl | rfl | rfl | rfl | rfl | rfl | rfl | rfl | rfl <;> decide))) rfl ?_
 refine WL.e 1 rfl<|We<|WL.e 1 rfl ?_
 refine C0 (N0 (n := 0) (E4 rfl rfl (by omega)) (by first | rfl | (rcases hn17 with rfl | rfl | rfl | rfl | rfl | rfl | rfl | rfl | rfl | rfl | rfl | rfl | rfl | rfl | rfl | rfl | rfl <;> decide))) rfl ?_
 refine WL.e 1 rfl<|We<|WL.e 3 rfl ?_
 refine C0 (N0 (n := 0) (O4 rfl rfl) (by first | rfl | (rcases hn17 with rfl | rfl | rfl | rfl | rfl | rfl | rfl | rfl | rfl | rfl | rfl | rfl | rfl | rfl | rfl | rfl | rfl <;> decide))) rfl ?_
 refine C0 (N0 (n := 0) (Runs.add rfl rfl) (by first | rfl | (rcases hn17 with rfl | rfl | rfl | rfl | rfl | rfl | rfl | rfl | rfl | rfl | rfl | rfl | rfl | rfl | rfl | rfl | rfl <;> decide))) rfl ?_
 refine WL.e 1 rfl<|We<|WL.e 2 rfl ?_
 refine C0 (N0 (n := 0) (O4 rfl rfl) (by first | rfl | (rcases hn17 with rfl | rfl | rfl | rfl | rfl | rfl | rfl | rfl | rfl | rfl | rfl | rfl | rfl | rfl | rfl | rfl | rfl <;> decide))) rfl ?_
 refine WL.e 1 rfl ?_
 refine C0 (N0 (n := 0) (Runs.add rfl rfl) (by first | rfl | (rcases hn17 with rfl | rfl | rfl | rfl | rfl | rfl | rfl | rfl | rfl | rfl | rfl | rfl | rfl | rfl | rfl | rfl | rfl <;> decide))) rfl ?_
 refine WL.e 1 rfl ?_
 refine C0 (N0 (n := 0) (E4 rfl rfl (by omega)) (by first | rfl | (rcases hn17 with rfl | rfl | rfl | rfl | rfl | rfl | rfl | rfl | rfl | rfl | rfl | rfl | rfl | rfl | rfl | rfl | rfl <;> decide))) rfl ?_
 refine C0 (N0 (n := 0) (Runs.add rfl rfl) (by first | rfl | (rcases hn17 with rfl | rfl | rfl | rfl | rfl | rfl | rfl | rfl | rfl | rfl | rfl | rfl | rfl | rfl | rfl | rfl | rfl <;> decide))) rfl ?_
 refine WL.e 1 rfl<|We<|WL.e 2 rfl ?_
 refine C0 (N0 (n := (n : Int)) (O4 rfl rfl) (by first | rfl | (rcases hn17 with rfl | rfl | rfl | rfl | rfl | rfl | rfl | rfl | rfl | rfl | rfl | rfl | rfl | rfl | rfl | rfl | rfl <;> decide))) rfl ?_
 refine WL.e 1 rfl<|Wg<|ret2 rfl rfl rfl ⟨rfl, h⟩
theorem mul_c {cs : List Res} (w : World) (n : Nat) (h : St W F cs w) (hn : n ≤ 16)  : Calls prog 139 #[.int .u64 1, .int .u64 (n : Int)] w fun e w' => e = .returned (.tuple #[.int .u64 0, .int .u64 (n : Int)]) ∧ St W F cs w'  := by
 refine enter (args := [.int .u64 1, .int .u64 (n : Int)]) func139 rfl rfl rfl<|Wi<|WL.e 2 rfl<|Wb<|V0 rfl (rfl)<|Wk<|WL.e 2 rfl<|WL.cv can161 rfl rfl (mul64_c _ n h hn) fun w1 h1 =>WL.e 5 rfl<|We<|WL.e 4 rfl<|Wg<|ret2 rfl rfl rfl ⟨rfl, h1⟩
theorem repeat_c {cs : List Res} (w : World) (n : Nat) {b0 c0 : Nat} (h : St W F ([(b0, .cells #[Vi (-1)] 3 (0, 0))] :: cs) w) (hp1 : 1 ≤ n) (hn : n ≤ 16)  : Calls prog 99 #[.slice (some ⟨b0, 0, none⟩) 1 c0, Vi (n : Int)] w fun e w' => ∃ bb, e = .returned (.slice (some ⟨bb, 0, none⟩) n n) ∧ St W F ([(bb, .cells (List.replicate n (Vi (-1))).toArray 3 (0, 0))] :: cs) w'  := by
 refine enter (args := [.slice (some ⟨b0, 0, none⟩) 1 c0, Vi (n : Int)]) func99 rfl rfl rfl ?_
 have hn17 : n = 0 ∨ n = 1 ∨ n = 2 ∨ n = 3 ∨ n = 4 ∨ n = 5 ∨ n = 6 ∨ n = 7 ∨ n = 8 ∨ n = 9 ∨ n = 10 ∨ n = 11 ∨ n = 12 ∨ n = 13 ∨ n = 14 ∨ n = 15 ∨ n = 16 := by omega
 refine Wi<|WL.e 1 rfl<|Wh<|WL.e 2 rfl<|Wa<|V0 rfl ((by rw [decide_eq_false_iff_not]; omega))<|Wk<|WL.e 1 rfl<|C0 (R0 underlying33 rfl rfl) rfl ?_
 refine C0 (N0 (n := 1) (X3 underlying3 underlying176 rfl) (by first | rfl | (rcases hn17 with rfl | rfl | rfl | rfl | rfl | rfl | rfl | rfl | rfl | rfl | rfl | rfl | rfl | rfl | rfl | rfl | rfl <;> decide))) rfl ?_
 refine WL.e 1 rfl ?_
 refine C0 (N0 (n := (n : Int)) (X3 underlying3 underlying176 rfl) (by first | rfl | (rcases hn17 with rfl | rfl | rfl | rfl | rfl | rfl | rfl | rfl | rfl | rfl | rfl | rfl | rfl | rfl | rfl | rfl | rfl <;> decide))) rfl ?_
 refine WL.cv can139 rfl rfl (mul_c _ n h hn) fun w1 h1 =>WL.e 5 rfl<|Wh<|WL.e 1 rfl<|C0 (Bf (X1 rfl rfl) rfl) rfl<|WL.e 2 rfl<|WL.gn rfl<|C0 (Bf (X1 rfl rfl) (by rw [decide_eq_false_iff_not]; omega)) rfl<|WL.e 1 rfl<|Wa<|V0 rfl (rfl)<|Wk<|WL.e 1 rfl ?_
 refine C0 (N0 (n := (n : Int)) (X3 underlying176 underlying3 rfl) (by first | rfl | (rcases hn17 with rfl | rfl | rfl | rfl | rfl | rfl | rfl | rfl | rfl | rfl | rfl | rfl | rfl | rfl | rfl | rfl | rfl <;> decide))) rfl ?_
 refine WL.make1 (l := n) (c := n) rfl h1 underlying33 inf3 rfl rfl rfl (Nat.le_refl _) (by omega) (by omega) ?_
 intro bb w2 h2
 try simp only [ZZ] at h2
 rw [show (List.replicate n (Vi 0)).toArray = (rp n 0).toArray from by simp [rp]] at h2
 refine WL.e 1 rfl<|We<|WL.e 2 rfl<|WL.copy (m := 1) (off := 0) (len := n) (cap := n) (src := List.replicate 1 (Vi (-1))) h2 0 rfl rfl underlying33 (inf3.elem rfl rfl) rfl rfl rfl (by rw [show Nat.min 1 n = 1 from Nat.min_eq_left hp1]; exact Sha.first_own h2 1 rfl 1 1 c0 (by decide)) rfl (Free.zero _) (by rw [rp_size n 0 (by omega)]; exact hp1) ?_
 intro w3 h3
 try simp only [ZZ] at h3
 rw [show Nat.min 1 n = 1 from Nat.min_eq_left hp1]
 replace h3 := (rp_blit (n := n) (k := 0) (m := 1) (by omega)) ▸ h3
 refine WL.e 1 rfl<|Wb<|WC.block<|WC.lp (σ := Nat) (fun q_ => [(0, .slice (some ⟨b0, 0, none⟩) 1 c0), (7, .slice (some ⟨bb, 0, none⟩) n n), (8, .int .i64 (q_ : Int))]) (fun q_ w => 0 < q_ ∧ q_ ≤ n ∧ St W F ([(bb, .cells (rp n q_).toArray 3 (0, 0))] :: [(b0, .cells #[Vi (-1)] 3 (0, 0))] :: cs) w) (fun q_ => n - q_) (1) (⟨by decide, hp1, h3⟩) ?_
 rintro k w4 ⟨hk1, hk, hL⟩
 try dsimp only at hk1 hk hL
 refine O2 [(0, .slice (some ⟨b0, 0, none⟩) 1 c0), (7, .slice (some ⟨bb, 0, none⟩) n n), (8, .int .i64 (k : Int))]<|L0<|Wi<|WL.e 2 rfl<|C0 (R0 underlying33 rfl rfl) rfl<|WL.e 1 rfl<|Wa<|U0 rfl (fun c5 => ?_) (fun c5 => ?_)
 ·try simp only [DD] at c5
  refine O0<|H0<|WC.block<|O3 (fun w_ => St W _ _ w_) (fun k => Nat.beq k 7) mixed (by kernel_rfl) (hL.drew)<|fun hx =>WM.e hx 3 rfl<|C2 hx (by rfl) rfl (fun w_ => B5 underlying33 inf3 rfl rfl (n := k) rfl (by omega)) rfl<|WM.e hx 2 rfl<|C2 hx (by rfl) rfl (fun w_ => Z4 underlying33 inf3 rfl rfl (n := k) rfl (by omega)) rfl<|Z3 hx rfl (by decide) (by kernel_rfl) fun w6 h6=>WD.op (by rfl) rfl (by kernel_rfl)<|WL.copy (m := k) (off := k) (len := n - k) (cap := n - k) (src := List.replicate (Nat.min k (n - k)) (Vi (-1))) h6 0 rfl rfl underlying33 (inf3.elem rfl rfl) (by show some _ = some _; rw [if_neg (by omega)]; simp [add_mk]) rfl rfl (by have := Sha.first_own (P := prog) h6 0 rfl (Nat.min k (n - k)) k n (by rw [rp_size n k (by omega)]; exact Nat.le_trans (Nat.min_le_left _ _) (by omega)); rwa [rp_take (Nat.min_le_left _ _)] at this) (by simp [one_]) (Free.zero _) (by rw [rp_size n k (by omega), List.length_replicate]; have : Nat.min k (n - k) ≤ n - k := Nat.min_le_right _ _; omega) ?_
  intro w7 h7
  try simp only [ZZ] at h7
  have hmn : Nat.min k (n - k) ≤ n - k := Nat.min_le_right _ _
  have hmp : 0 < Nat.min k (n - k) := Nat.lt_min.2 ⟨hk1, by omega⟩
  replace h7 := (rp_blit (n := n) (k := k) (m := Nat.min k (n - k)) (by omega)) ▸ h7
  refine WL.nil<|L3<|X2 hx (by rfl) (fun w_ => N0 (n := ((k + Nat.min k (n - k) : Nat) : Int)) (Q0 rfl rfl (by omega)) (by omega)) rfl<|X2 hx (by rfl) (fun w_ => Runs.assign rfl) rfl<|WD.fin rfl (by kernel_rfl)<|WN.blk<|X0 (k + Nat.min k (n - k)) (by omega) ⟨rfl, rfl, rfl, trivial⟩ ⟨by omega, by omega, h7⟩
 ·try simp only [DD] at c5
  refine WC.exit<|Q1<|WX.cut<|S1<|H0<|Wi<|WL.e 2 rfl<|WL.nil (H0 (I1 ?_))
  obtain rfl : k = n := by omega
  replace hL := hL.drop 1
  refine ret1 rfl rfl ⟨bb, rfl, ?_⟩
  have e9 : rp k k = List.replicate k (Vi (-1)) := by simp [rp]
  rw [e9] at hL
  exact hL
theorem inf33 : Inf prog 33 (.slice none 0 0) 1 24 := by unfold Inf; kernel_rfl
theorem inf80 : Inf prog 80 (.slice none 0 0) 1 24 := by unfold Inf; kernel_rfl
theorem inf81 : Inf prog 81 (.map none) 1 8 := by unfold Inf; kernel_rfl
theorem inf97 : Inf prog 97 (.pointer none) 1 8 := by unfold Inf; kernel_rfl
theorem fld83_6 : fldB prog 83 6 7 = true := by kernel_rfl
theorem can99 : B.Can prog 99 := ⟨_, func99, by kernel_rfl, rfl⟩
theorem St.rev5 {W w : World} {F : Snap} {cs : List Res} {a b c d e : Res} (h : St W F (a :: b :: c :: d :: e :: cs) w) : St W F (e :: d :: c :: b :: a :: cs) w := h.perm ((List.reverse_perm [a, b, c, d, e]).append_right cs)
theorem finish_c {cs : List Res} (w : World) {r : Res} {b : Nat} {x : J} (h : St W F (r :: cs) w) (hJ : JobR F r b x) (fa co : Int) : Calls prog 86 #[.pointer (some ⟨b, 0, none⟩), Vi fa, Vi co] w fun e w' => e = .returned (.tuple #[]) ∧ ∃ r', JobR F r' b (x.fin fa co) ∧ St W F (r' :: cs) w'  := by
 refine enter (args := [.pointer (some ⟨b, 0, none⟩), Vi fa, Vi co]) func86 rfl rfl rfl ?_
 obtain ⟨bC, bT, m1, m2, A, B, cap, cap2, ps, zc, zt, fc, ft, l1, l2, tm, h, hO⟩ := JobR.open_ h hJ
 refine K0<|WL.e 7 rfl<|F1 h 0 rfl rfl rfl inf3 rfl rfl (Free.zero _) (Nat.le_of_ble_eq_true rfl) ?_
 intro  w1 h1
 try simp only [ZZ] at h1
 refine WL.e 2 rfl<|F1 h1 0 rfl rfl rfl inf3 rfl rfl (Free.zero _) (Nat.le_of_ble_eq_true rfl) ?_
 intro  w2 h2
 try simp only [ZZ] at h2
 refine WL.e 2 rfl<|F1 h2 0 rfl rfl rfl inf3 rfl rfl (Free.zero _) (Nat.le_of_ble_eq_true rfl) ?_
 intro  w3 h3
 try simp only [ZZ] at h3
 refine WL.nil ?_
 obtain ⟨r9, hJ9, hS9⟩ := JobR.close (x := x.fin fa co) (F := _) (show St W _ (jB (x.fin fa co) b bC bT m1 m2 A B cap cap2 ps zc zt :: _) _ from h3) ⟨hO.nd, hO.st, hO.fc, hO.ft, hO.ta, hO.r1, hO.r2⟩
 exact end0 rfl ⟨rfl, r9, hJ9, hS9⟩
theorem begin_c {cs : List Res} (w : World) {b : Nat} {x : J} {A B : Option Addr} {cap cap2 : Nat} {v4 v5 v6 v7 v8 v9 v10 : Value} (h : St W F ([(b, .cells #[.slice A x.ns.length cap, .slice B x.ss.length cap2, Vi x.id, Vi x.ep, v4, v5, v6, v7, v8, v9, v10, .bool x.ak] 83 (0, 0))] :: cs) w) (hA : RdS (Kd.one Vi) F A x.ns) (hB : RdS KS F B x.ss) (hp1 : 1 ≤ x.ss.length) (hn : x.ss.length ≤ 16) : Calls prog 59 #[.pointer (some ⟨b, 0, none⟩)] w fun e w' => e = .returned (.tuple #[]) ∧ ∃ r', JobR F r' b x.begin ∧ St W F (r' :: cs) w'  := by
 refine enter (args := [.pointer (some ⟨b, 0, none⟩)]) func59 rfl rfl rfl<|Wi<|WL.e 5 rfl<|F1 h 0 rfl rfl rfl inf3 rfl rfl (Free.zero _) (Nat.le_of_ble_eq_true rfl) ?_
 intro  w1 h1
 try simp only [ZZ] at h1
 refine WL.e 2 rfl<|F1 h1 0 rfl rfl rfl inf3 rfl rfl (Free.zero _) (Nat.le_of_ble_eq_true rfl) ?_
 intro  w2 h2
 try simp only [ZZ] at h2
 refine WL.e 2 rfl<|F1 h2 0 rfl rfl rfl inf3 rfl rfl (Free.zero _) (Nat.le_of_ble_eq_true rfl) ?_
 intro  w3 h3
 try simp only [ZZ] at h3
 refine We<|WL.e 1 rfl<|WL.lit (vs := (([-1] : List Int)).map Vi) h3 rfl underlying33 inf3 rfl rfl rfl rfl rfl fun lit12 w4 h4=>W0 h4 [1] 5 rfl<|C0 (N0 (n := (x.ss.length : Int)) (R0 underlying34 rfl rfl) rfl) rfl<|H1 can99 rfl rfl (repeat_c _ x.ss.length h4 hp1 hn) ?_
 rintro _ w5 ⟨bC, rfl, h5⟩
 refine ⟨_, rfl,WL.e 2 rfl<|F1 h5 1 rfl rfl rfl inf33 rfl rfl (Free.zero _) (Nat.le_of_ble_eq_true rfl) ?_⟩
 intro  w6 h6
 try simp only [ZZ] at h6
 refine We<|W0 h6 [1] 6 rfl<|C0 (N0 (n := (x.ss.length : Int)) (R0 underlying34 rfl rfl) rfl) rfl<|WL.make1 (l := x.ss.length) (c := x.ss.length) rfl h6 underlying80 inf97 rfl rfl rfl (Nat.le_refl _) (by omega) (by omega) ?_
 intro bT w7 h7
 try simp only [ZZ] at h7
 refine WL.e 2 rfl<|F1 h7 2 rfl rfl rfl inf80 rfl rfl (Free.zero _) (Nat.le_of_ble_eq_true rfl) ?_
 intro  w8 h8
 try simp only [ZZ] at h8
 refine Wf<|WL.e 2 rfl<|WL.makeMap rfl h8 fun m34 w9 h9=>WL.makeMap rfl h9 fun m35 w10 h10=>WL.e 2 rfl<|F1 h10 4 rfl rfl rfl inf81 rfl rfl (Free.zero _) (Nat.le_of_ble_eq_true rfl) ?_
 intro  w11 h11
 try simp only [ZZ] at h11
 refine WL.e 2 rfl<|F1 h11 4 rfl rfl rfl inf81 rfl rfl (Free.zero _) (Nat.le_of_ble_eq_true rfl) ?_
 intro  w12 h12
 try simp only [ZZ] at h12
 refine WL.nil ?_
 replace h12 : St W F ([(m35, mobj [])] :: [(m34, mobj [])] :: [(bT, .cells (List.replicate x.ss.length (.pointer none)).toArray 97 (0, 0))] :: [(bC, .cells (List.replicate x.ss.length (Vi (-1))).toArray 3 (0, 0))] :: [(b, .cells #[.slice A x.ns.length cap, .slice B x.ss.length cap2, Vi x.id, Vi x.ep, Vi 0, Vi 0, Vi 0, .slice (some ⟨bC, 0, none⟩) x.ss.length x.ss.length, .slice (some ⟨bT, 0, none⟩) x.ss.length x.ss.length, .map (some m34), .map (some m35), .bool x.ak] 83 (0, 0))] :: cs) _ := h12
 obtain ⟨r9, hJ9, hS9⟩ := JobR.close (W := W) (F := F) (cs := cs) (x := x.begin) (b := b) (bC := bC) (bT := bT) (m1 := m34) (m2 := m35) (A := A) (B := B) (cap := cap) (cap2 := cap2) (ps := List.replicate x.ss.length none) (zc := []) (zt := []) (fc := (0, 0)) (ft := (0, 0)) (l1 := []) (l2 := []) (tm := List.replicate (2 * x.ss.length) []) (w := w12) (St.flat (St.rev5 h12) (by
  have e1 : (List.replicate (2 * x.ss.length) ([] : Res)).flatten = [] := by simp
  have e2 : (List.replicate x.ss.length (Value.pointer none)).toArray = ((List.replicate x.ss.length (none : Option Nat)).map pv ++ []).toArray := by simp [pv]
  have e3 : (List.replicate x.ss.length (Vi (-1))).toArray = ((List.replicate x.ss.length (-1 : Int)).map Vi ++ []).toArray := by simp
  rw [e2, e3]
  simp only [List.flatten_cons, List.flatten_append, e1, List.nil_append, J.begin, jB, vC, vT, List.length_replicate, List.length_nil, Nat.add_zero]
  exact List.Perm.refl _)) ⟨hA, hB, Free.zero _, Free.zero _, TalsR.new _, rfl, rfl⟩
 exact end0 rfl ⟨rfl, r9, hJ9, hS9⟩
theorem nodup_le : ∀ {n : Nat} {l : List Nat}, l.Nodup → (∀ x ∈ l, x < n) → l.length ≤ n
 |0, [], _, _ => Nat.le_refl _
 |0, x :: l, _, h => absurd (h x List.mem_cons_self) (Nat.not_lt_zero _)
 |n + 1, l, hd, h => by
  have h1 := nodup_le (n := n) (hd.erase n) (fun x hx => by
   have hx2 := (List.Nodup.mem_erase_iff hd).1 hx
   have := h x hx2.2
   have := hx2.1
   omega)
  by_cases hm : n ∈ l
  ·rw [List.length_erase_of_mem hm] at h1
   omega
  ·rw [List.erase_of_not_mem hm] at h1
   omega
theorem few_of {l : List S} (h : okAll l) : ∀ i, i < l.length → (l.getD i S0).af.length ≤ l.length := fun i hi => by
 have hs := (h i hi).2
 have h1 := nodup_le (n := l.length) (l := (l.getD i S0).af.map fun e => e.st.toNat) (by
  rw [List.Nodup, List.pairwise_iff_getElem]
  intro a b ha hb hab he
  rw [List.length_map] at ha hb
  rw [List.getElem_map, List.getElem_map] at he
  obtain ⟨_, _, hno⟩ := hs b hb
  have e1 : (l.getD i S0).af.getD b E0 = (l.getD i S0).af[b] := by rw [List.getD_eq_getElem?_getD, List.getElem?_eq_getElem hb]; rfl
  have e2 : (l.getD i S0).af.getD a E0 = (l.getD i S0).af[a] := by rw [List.getD_eq_getElem?_getD, List.getElem?_eq_getElem ha]; rfl
  have ia := Dg.edge_in h hi ha
  have ib := Dg.edge_in h hi hb
  rw [e2] at ia
  rw [e1] at ib hno
  have hst : (l.getD i S0).af[a].st = (l.getD i S0).af[b].st := by omega
  refine hno (List.mem_cons_of_mem _ (List.mem_map.2 ⟨(l.getD i S0).af[a], ?_, hst⟩))
  exact List.mem_take_iff_getElem.2 ⟨a, by omega, rfl⟩) (fun x hx => by
  obtain ⟨e, he, rfl⟩ := List.mem_map.1 hx
  obtain ⟨k, hk, rfl⟩ := List.getElem_of_mem he
  have := Dg.edge_in h hi hk
  have e1 : (l.getD i S0).af.getD k E0 = (l.getD i S0).af[k] := by rw [List.getD_eq_getElem?_getD, List.getElem?_eq_getElem hk]; rfl
  rw [e1] at this
  omega)
 simpa using h1
theorem few_ok {l : List S} (h : chkM l = 0) : l.length ≤ 100000 ∧ Dg.fewE l := by
 have h1 := Dg.chk_ok h
 refine ⟨by omega, fun i hi => ?_⟩
 have := few_of h1.1 i hi
 omega
theorem settleJ {cs : List Res} (w : World) {l : List S} {B : Option Addr} {cap2 cap bC i n : Nat} {c : List Int} {zc : List Value} {fc : Nat × Nat} (h : St W F cs w) (hi : cs[i]? = some (cB c bC zc fc)) (hB : RdS KS F B l) (hc : c.length ≤ 16) (hn : n = c.length) (hw : withM l c = 0) : Calls prog 101 #[.slice B l.length cap2, .slice (some ⟨bC, 0, none⟩) n cap] w fun e w' => ∃ rr v, e = .returned (.tuple #[v, Vi 0]) ∧ Row 3 Vi rr v (settleM l c) ∧ St W F (rr :: cs) w' := by
 subst hn
 obtain ⟨G, hG, hr, hS⟩ := h.freeze hi
 have hf := few_ok (Dg.with_ok hw).1
 refine (Dg.settle_o w (A2 := some ⟨bC, 0, none⟩) hS (hB.mono hG) hf.1 hf.2 (Tal.blk_read (hr _ List.mem_cons_self)) (by omega) hw).mono ?_
 rintro e w' ⟨G2, rr, v, hG2, rfl, hrow, hS2⟩
 exact ⟨rr, v, rfl, hrow, St.thaw (new := [rr]) h hi (fun p hp => hG2 _ _ (hr p hp)) (Le.trans hG hG2) hS2⟩
theorem overJ {cs : List Res} (w : World) {l : List S} {B : Option Addr} {cap2 cap bC i n : Nat} {c : List Int} {zc : List Value} {fc : Nat × Nat} (h : St W F cs w) (hi : cs[i]? = some (cB c bC zc fc)) (hB : RdS KS F B l) (hc : c.length ≤ 16) (hn : n = c.length) (hw : withM l c = 0) : Calls prog 103 #[.slice B l.length cap2, .slice (some ⟨bC, 0, none⟩) n cap] w fun e w' => e = .returned (.tuple #[Vi (overM l c).1, .bool (overM l c).2]) ∧ St W F cs w' := by
 subst hn
 obtain ⟨G, hG, hr, hS⟩ := h.freeze hi
 have hf := few_ok (Dg.with_ok hw).1
 refine (Dg.over_c w (A2 := some ⟨bC, 0, none⟩) hS (hB.mono hG) hf.1 hf.2 (Tal.blk_read (hr _ List.mem_cons_self)) (by omega)).mono ?_
 rintro e w' ⟨rfl, hS2⟩
 exact ⟨rfl, St.thaw (new := []) h hi hr hG hS2⟩
theorem readyJ {cs : List Res} (w : World) {l : List S} {B : Option Addr} {cap2 cap bC i n : Nat} {c : List Int} {zc : List Value} {fc : Nat × Nat} (h : St W F cs w) (hi : cs[i]? = some (cB c bC zc fc)) (hB : RdS KS F B l) (hc : c.length ≤ 16) (hn : n = c.length) (hw : withM l c = 0) (hfr : Free fc (c.length + zc.length)) : Calls prog 102 #[.slice B l.length cap2, .slice (some ⟨bC, 0, none⟩) n cap] w fun e w' => ∃ G A cap, Le F G ∧ e = .returned (.tuple #[.slice A (readyM l c).length cap, Vi 0]) ∧ (readyM l c).length ≤ cap ∧ RdS (Kd.one Vi) G A (readyM l c) ∧ St W G cs w' := by
 subst hn
 have hf := few_ok (Dg.with_ok hw).1
 have := Dg.readyW_c w (codes := c) (A2 := some ⟨bC, 0, none⟩) (cap := cap2) (cap2 := cap) h hB hf.1 hf.2 (V4 (E := 3) (f := Vi) (Z2 (zs := zc) rfl hfr) hi rfl h) (by omega)
 rw [hw] at this
 exact this
theorem can45 : B.Can prog 45 := ⟨_, func45, by kernel_rfl, rfl⟩
theorem can86 : B.Can prog 86 := ⟨_, func86, by kernel_rfl, rfl⟩
theorem can97 : B.Can prog 97 := ⟨_, func97, by kernel_rfl, rfl⟩
theorem can100 : B.Can prog 100 := ⟨_, func100, by kernel_rfl, rfl⟩
theorem can101 : B.Can prog 101 := ⟨_, func101, by kernel_rfl, rfl⟩
theorem can102 : B.Can prog 102 := ⟨_, func102, by kernel_rfl, rfl⟩
theorem can103 : B.Can prog 103 := ⟨_, func103, by kernel_rfl, rfl⟩
def sk (x : J) (i : Nat) : List Int := (seen x.ak x.cs x.ts).take i ++ x.cs.drop i
theorem at5 {a b c d e : Res} {tm cs : List Res} {k : Nat} {r : Res} (h : tm[k]? = some r) : (a :: b :: c :: d :: e :: (tm ++ cs))[k + 5]? = some r := by
 have hk : k < tm.length := (List.getElem?_eq_some_iff.1 h).1
 show (tm ++ cs)[k]? = some r
 rw [List.getElem?_append_left hk]
 exact h
theorem set5 {a b c d e : Res} {tm cs : List Res} {k : Nat} {r : Res} (hk : k < tm.length) : (a :: b :: c :: d :: e :: (tm ++ cs)).set (k + 5) r = a :: b :: c :: d :: e :: (tm.set k r ++ cs) := by
 simp only [List.set_cons_succ]
 rw [List.set_append_left _ _ hk]
theorem sk_0 (x : J) : sk x 0 = x.cs := by simp [sk]
theorem sk_len {x : J} {i : Nat} (h : x.ts.length = x.cs.length) (hi : i ≤ x.cs.length) : (sk x i).length = x.cs.length := by
 unfold sk
 rw [List.length_append, List.length_take, List.length_drop, seen_len h]
 omega
theorem sk_n {x : J} (h : x.ts.length = x.cs.length) : sk x x.cs.length = seen x.ak x.cs x.ts := by
 unfold sk
 rw [List.drop_length, List.append_nil, List.take_of_length_le (by rw [seen_len h]; exact Nat.le_refl _)]
theorem sk_at {x : J} {i : Nat} (h : x.ts.length = x.cs.length) (hi : i < x.cs.length) : (sk x i).getD i 0 = x.cs.getD i 0 := by
 unfold sk
 rw [List.getD_eq_getElem?_getD, List.getD_eq_getElem?_getD, List.getElem?_append_right (by rw [List.length_take]; omega), List.length_take, seen_len h, Nat.min_eq_left (by omega), Nat.sub_self, List.getElem?_drop, Nat.add_zero]
theorem seen_at {ak : Bool} {cs : List Int} {ts : List (Option T)} {i : Nat} (h : ts.length = cs.length) (hi : i < cs.length) : (seen ak cs ts).getD i 0 = cod ak (cs.getD i 0) (ts.getD i none) := by
 unfold seen
 rw [List.getD_eq_getElem?_getD, List.getElem?_zipWith, List.getD_eq_getElem?_getD, List.getD_eq_getElem?_getD, List.getElem?_eq_getElem hi, List.getElem?_eq_getElem (show i < ts.length by omega)]
 rfl
theorem sk_s {x : J} {i : Nat} (h : x.ts.length = x.cs.length) (hi : i < x.cs.length) : sk x (i + 1) = (sk x i).set i (cod x.ak (x.cs.getD i 0) (x.ts.getD i none)) := by
 have hs := seen_len (ak := x.ak) h
 have e1 := seen_at (ak := x.ak) h hi
 have e2 : x.cs.drop i = x.cs.getD i 0 :: x.cs.drop (i + 1) := by
  rw [List.drop_eq_getElem_cons hi, List.getD_eq_getElem?_getD, List.getElem?_eq_getElem hi]; rfl
 unfold sk
 rw [e2, List.set_append_right _ _ (by rw [List.length_take]; omega), List.length_take, hs, Nat.min_eq_left (by omega), Nat.sub_self, List.set_cons_zero, ← e1, List.take_add_one, List.getElem?_eq_getElem (show i < (seen x.ak x.cs x.ts).length by omega), List.getD_eq_getElem?_getD, List.getElem?_eq_getElem (show i < (seen x.ak x.cs x.ts).length by omega), List.append_assoc]
 rfl
theorem sk_to {x : J} {i : Nat} {v : Int} (h : x.ts.length = x.cs.length) (hi : i < x.cs.length) (hv : cod x.ak (x.cs.getD i 0) (x.ts.getD i none) = v) : (sk x i).set i v = sk x (i + 1) := by rw [sk_s h hi, hv]
theorem sk_same {x : J} {i : Nat} (h : x.ts.length = x.cs.length) (hi : i < x.cs.length) (hv : cod x.ak (x.cs.getD i 0) (x.ts.getD i none) = x.cs.getD i 0) : sk x i = sk x (i + 1) := by
 rw [sk_s h hi, hv]
 exact (set_same (d := 0) (by rw [sk_len h (by omega)]; exact hi) (sk_at h hi)).symm
theorem cod_open {x : J} {i : Nat} (h : ¬ x.cs.getD i 0 = -1) : cod x.ak (x.cs.getD i 0) (x.ts.getD i none) = x.cs.getD i 0 := if_pos h
theorem cod_none {x : J} {i : Nat} (h : x.cs.getD i 0 = -1) (h2 : x.ts.getD i none = none) (h3 : x.ak = true) : cod x.ak (x.cs.getD i 0) (x.ts.getD i none) = 256 := by
 unfold cod
 rw [if_neg (fun hh => hh h), h2, h3]; rfl
theorem cod_none0 {x : J} {i : Nat} (h : x.cs.getD i 0 = -1) (h2 : x.ts.getD i none = none) (h3 : x.ak = false) : cod x.ak (x.cs.getD i 0) (x.ts.getD i none) = x.cs.getD i 0 := by
 unfold cod
 rw [if_neg (fun hh => hh h), h2, h3, h]; rfl
theorem cod_two {x : J} {i : Nat} {t : T} (h : x.cs.getD i 0 = -1) (h2 : x.ts.getD i none = some t) (h3 : t.state = 2) : cod x.ak (x.cs.getD i 0) (x.ts.getD i none) = 255 := by
 unfold cod
 rw [if_neg (fun hh => hh h), h2]
 exact if_pos h3
theorem cod_three {x : J} {i : Nat} {t : T} (h : x.cs.getD i 0 = -1) (h2 : x.ts.getD i none = some t) (h3 : ¬ t.state = 2) (h4 : t.state = 3) : cod x.ak (x.cs.getD i 0) (x.ts.getD i none) = t.code := by
 unfold cod
 rw [if_neg (fun hh => hh h), h2]
 exact (if_neg h3).trans (if_pos h4)
theorem cod_else {x : J} {i : Nat} {t : T} (h : x.cs.getD i 0 = -1) (h2 : x.ts.getD i none = some t) (h3 : ¬ t.state = 2) (h4 : ¬ t.state = 3) : cod x.ak (x.cs.getD i 0) (x.ts.getD i none) = x.cs.getD i 0 := by
 unfold cod
 rw [if_neg (fun hh => hh h), h2, h]
 exact (if_neg h3).trans (if_neg h4)
theorem look_a {x : J} (h : (overM x.ss x.cs').2 = false) : x.mid = x.look := (if_pos h).symm
theorem look_b {x : J} (h : (overM x.ss x.cs').2 = true) (h2 : x.ak = true ∨ (overM x.ss x.cs').1 ≠ 0) : x.mid.fin 1 (overM x.ss x.cs').1 = x.look := by
 unfold J.look J.end_
 rw [if_neg (show ¬ (overM x.mid.ss x.mid.cs).2 = false from by show ¬ (overM x.ss x.cs').2 = false; rw [h]; simp)]
 exact (if_pos h2).symm
theorem look_d {x : J} (h : (overM x.ss x.cs').2 = true) (h2 : ¬ (x.ak = true ∨ (overM x.ss x.cs').1 ≠ 0)) : x.mid.fin 0 0 = x.look := by
 unfold J.look J.end_
 rw [if_neg (show ¬ (overM x.mid.ss x.mid.cs).2 = false from by show ¬ (overM x.ss x.cs').2 = false; rw [h]; simp)]
 exact (if_neg h2).symm
theorem St.two5 {W w : World} {F : Snap} {cs tm : List Res} {a b c d e p q : Res} {k : Nat} (h : St W F (p :: q :: a :: b :: c :: d :: e :: (tm ++ cs)) w) (h1 : tm[k]? = some []) (h2 : tm[k + 1]? = some []) : St W F (a :: b :: c :: d :: e :: ((tm.set k p).set (k + 1) q ++ cs)) w := by
 have hk2 : k + 1 < tm.length := (List.getElem?_eq_some_iff.1 h2).1
 have h8 := St.in_ h (i := k + 6) (show (a :: b :: c :: d :: e :: (tm ++ cs))[k + 5]? = some [] from at5 h1)
 have h9 : St W F (q :: (a :: b :: c :: d :: e :: (tm ++ cs)).set (k + 5) p) w := h8
 rw [set5 (by omega)] at h9
 have h7 := St.in_ h9 (i := k + 1 + 5) (at5 (by rw [List.getElem?_set_ne (by omega)]; exact h2))
 rwa [set5 (by rw [List.length_set]; omega)] at h7
theorem jB_len {x : J} {b bC bT m1 m2 : Nat} {A B : Option Addr} {cap cap2 : Nat} {ps ps' : List (Option Nat)} {zc zt : List Value} (h : ps.length = ps'.length) : jB x b bC bT m1 m2 A B cap cap2 ps zc zt = jB x b bC bT m1 m2 A B cap cap2 ps' zc zt := by
 unfold jB vT
 rw [h]
theorem St.swap2 {W w : World} {F : Snap} {cs : List Res} {a b : Res} (h : St W F (a :: b :: cs) w) : St W F (b :: a :: cs) w := h.perm (List.Perm.swap a b cs)
def opnN (x : J) (j : Nat) : List (Option T) := opnL x.ns x.ts ((readyM x.ss x.cs').take j)
theorem opnN_len (x : J) (j : Nat) : (opnN x j).length = x.ts.length := opnL_len _ _ _
theorem opnN_s {x : J} {j : Nat} (h : j < (readyM x.ss x.cs').length) : opnN x (j + 1) = opn1 x.ns (opnN x j) ((readyM x.ss x.cs').getD j 0) := by
 unfold opnN opnL
 rw [List.take_add_one, List.getElem?_eq_getElem h, List.foldl_append, List.getD_eq_getElem?_getD, List.getElem?_eq_getElem h]; rfl
theorem ready_len (x : J) : (readyM x.ss x.cs').length ≤ x.ss.length := by
 unfold Dg.readyM
 split
 ·exact Dg.rdyL_len _ _ _
 ·exact Nat.zero_le _
theorem ready_lt {x : J} (h : x.ok) {j : Nat} (hj : j < (readyM x.ss x.cs').length) : 0 ≤ (readyM x.ss x.cs').getD j 0 ∧ ((readyM x.ss x.cs').getD j 0).toNat < x.ss.length := by
 have := (Dg.ready_at (s := x.cs') (x := (readyM x.ss x.cs').getD j 0) (Dg.settle_with h.with0) (getD_mem (d := 0) hj)).1
 exact ⟨this.1, by have := this.2; omega⟩
theorem look_c {cs : List Res} (w : World) {r : Res} {b : Nat} {x : J} (h : St W F (r :: cs) w) (hJ : JobR F r b x) (hok : x.ok) : Calls prog 60 #[.pointer (some ⟨b, 0, none⟩)] w fun e w' => e = .returned (.tuple #[]) ∧ ∃ G r', Le F G ∧ JobR G r' b x.look ∧ St W G (r' :: cs) w'  := by
 refine enter (args := [.pointer (some ⟨b, 0, none⟩)]) func60 rfl rfl rfl ?_
 obtain ⟨bC, bT, m1, m2, A, B, cap, cap2, ps, zc, zt, fc, ft, l1, l2, tm, h, hO⟩ := JobR.open_ h hJ
 have hok2 := hok
 have hlen : x.ts.length = x.cs.length := hok.lt.trans hok.lc.symm
 have hlp := hO.ta.lp
 have hlm := hO.ta.lm
 have hls := (Dg.chk_ok hok.ss).2.1
 have hlc := hok.lc
 have hlt := hok.lt
 have hrl : (readyM x.ss x.cs').length ≤ x.ss.length := ready_len x
 refine L0<|Wi<|W0 h [0] 4 rfl<|C0 (N0 (n := (ps.length : Int)) (R0 underlying80 rfl rfl) rfl) rfl<|WL.e 1 rfl<|Wj<|WC.lp (σ := Nat) (fun q_ => [(0, .pointer (some ⟨b, 0, none⟩)), (13, vT ps bT zt), (14, .int .i64 (ps.length : Int)), (15, .int .i64 (q_ : Int))]) (fun q_ w => q_ ≤ ps.length ∧ St W F (jB x b bC bT m1 m2 A B cap cap2 ps zc zt :: cB (sk x q_) bC zc fc :: tB ps bT zt ft :: [(m1, mobj l1)] :: [(m2, mobj l2)] :: (tm ++ cs)) w) (fun q_ => ps.length - q_) (0) (⟨Nat.zero_le _, by rw [sk_0]; exact h⟩) ?_
 rintro i w1 ⟨hi, hL⟩
 try dsimp only at hi hL
 refine O2 [(0, .pointer (some ⟨b, 0, none⟩)), (13, vT ps bT zt), (14, .int .i64 (ps.length : Int)), (15, .int .i64 (i : Int))]<|Wi<|WL.e 1 rfl<|Wb<|U0 rfl (fun c2 => ?_) (fun c2 => ?_)
 ·try simp only [DD] at c2
  refine O0 (H0 (L0 (WC.block (L0 ?_))))
  have hi2 : i < x.cs.length := by omega
  have hi3 : i < x.ts.length := by omega
  rcases hts : x.ts.getD i none with _ | t
  ·obtain ⟨hp, hm1, hm2⟩ := hO.ta.no i hi3 hts
   refine K0<|WL.e 1 rfl<|C0 (C1 underlying80 inf97 rfl rfl (n := i) rfl (by omega)) rfl<|C0 (L1 (u := .pointer none) (Y1 (none : Option Nat) hL 2 rfl (Z2 (E := 97) (f := pv) (b := bT) (fz := ft) (xs := ps) (zs := zt) rfl hO.ft) (n := i) (by omega) underlying97 rfl rfl) (by rw [hp]; rfl)) rfl<|WL.e 2 rfl<|Wj<|Wi<|W0 hL [0] 5 rfl<|C0 (C1 underlying33 inf3 rfl rfl (n := i) rfl (by omega)) rfl<|C0 (N0 (n := x.cs.getD i 0) (Y1 (0 : Int) hL 1 rfl (Z2 (E := 3) (f := Vi) (b := bC) (fz := fc) (xs := (sk x i)) (zs := zc) rfl (by rw [sk_len hlen (by omega)]; exact hO.fc)) (n := i) (by rw [sk_len hlen (by omega)]; omega) underlying3 rfl rfl) (sk_at hlen hi2)) rfl<|WL.e 2 rfl<|Wa<|U0 rfl (fun c3 => ?_) (fun c3 => ?_)
   ·try simp only [DD] at c3
    refine O0<|WN.blk<|WN.blk<|H0<|K0<|C0 (Q0 rfl rfl (by omega)) rfl<|WL.e 1 rfl<|WL.nil ?_
    have e9 := sk_same hlen hi2 (cod_open c3)
    exact X0 (i + 1) (by omega) ⟨rfl, rfl, rfl, rfl, trivial⟩ ⟨by omega, by rw [← e9]; exact hL⟩
   ·try simp only [DD] at c3
    refine Wi<|WL.e 1 rfl<|C0 (Bt (V1 underlying97 rfl rfl) rfl) rfl<|W0 hL [0] 7 rfl<|Wa<|U0 rfl (fun c4 => ?_) (fun c4 => ?_)
    ·try simp only [DD] at c4
     refine K0<|W0 hL [0] 5 rfl<|C0 (L1 (u := .pointer (some ⟨bC, i, none⟩)) (C1 underlying33 inf3 rfl rfl (n := i) rfl (by omega)) (by rw [add_mk, Nat.zero_add])) rfl<|I3 (n := i) (u := (256 : Int)) hL 1 rfl rfl rfl inf3 rfl (by rw [sk_len hlen (by omega)]; exact hO.fc) (by rw [sk_len hlen (by omega)]; omega) ?_
     intro  w5 h5
     try simp only [ZZ] at h5
     refine WL.nil<|WN.blk<|WN.blk<|H0<|K0<|C0 (Q0 rfl rfl (by omega)) rfl<|WL.e 1 rfl<|WL.nil ?_
     have hc1 : x.cs.getD i 0 = -1 := by simpa using c3
     have e9 := sk_to hlen hi2 (cod_none hc1 hts c4)
     exact X0 (i + 1) (by omega) ⟨rfl, rfl, rfl, rfl, trivial⟩ ⟨by omega, by rw [← e9]; exact h5⟩
    ·try simp only [DD] at c4
     refine Wi<|WL.e 1 rfl<|C0 (V1 underlying97 rfl rfl) rfl<|WL.e 1 rfl<|Wa<|B1 rfl (rfl)<|O0<|WN.blk<|WN.blk<|H0<|K0<|C0 (Q0 rfl rfl (by omega)) rfl<|WL.e 1 rfl<|WL.nil ?_
     have hc1 : x.cs.getD i 0 = -1 := by simpa using c3
     have e9 := sk_same hlen hi2 (cod_none0 hc1 hts c4)
     exact X0 (i + 1) (by omega) ⟨rfl, rfl, rfl, rfl, trivial⟩ ⟨by omega, by rw [← e9]; exact hL⟩
  ·obtain ⟨bt, q1, q2, hp, hm1, hm2, mv, mc, lv, lc, hTR⟩ := hO.ta.ye i t hts
   refine K0<|WL.e 1 rfl<|C0 (C1 underlying80 inf97 rfl rfl (n := i) rfl (by omega)) rfl<|C0 (L1 (u := .pointer (some ⟨bt, 0, none⟩)) (Y1 (none : Option Nat) hL 2 rfl (Z2 (E := 97) (f := pv) (b := bT) (fz := ft) (xs := ps) (zs := zt) rfl hO.ft) (n := i) (by omega) underlying97 rfl rfl) (by rw [hp]; rfl)) rfl<|WL.e 2 rfl<|Wj<|Wi<|W0 hL [0] 5 rfl<|C0 (C1 underlying33 inf3 rfl rfl (n := i) rfl (by omega)) rfl<|C0 (N0 (n := x.cs.getD i 0) (Y1 (0 : Int) hL 1 rfl (Z2 (E := 3) (f := Vi) (b := bC) (fz := fc) (xs := (sk x i)) (zs := zc) rfl (by rw [sk_len hlen (by omega)]; exact hO.fc)) (n := i) (by rw [sk_len hlen (by omega)]; omega) underlying3 rfl rfl) (sk_at hlen hi2)) rfl<|WL.e 2 rfl<|Wa<|U0 rfl (fun c6 => ?_) (fun c6 => ?_)
   ·try simp only [DD] at c6
    refine O0<|WN.blk<|WN.blk<|H0<|K0<|C0 (Q0 rfl rfl (by omega)) rfl<|WL.e 1 rfl<|WL.nil ?_
    have e9 := sk_same hlen hi2 (cod_open c6)
    exact X0 (i + 1) (by omega) ⟨rfl, rfl, rfl, rfl, trivial⟩ ⟨by omega, by rw [← e9]; exact hL⟩
   ·try simp only [DD] at c6
    refine Wi<|WL.e 1 rfl<|C0 (Bf (V1 underlying97 rfl rfl) rfl) rfl<|WL.e 7 rfl<|Wa<|V0 rfl (rfl)<|Wi<|WL.e 1 rfl<|C0 (V1 underlying97 rfl rfl) rfl<|WL.e 1 rfl<|Wa<|V0 rfl (rfl)<|Wi<|WL.e 1 rfl<|WL.cv can45 rfl rfl (Tal.state_c _ hL (TR.at2 hTR (at5 hm1) (at5 hm2) (by omega))) fun w7 h7 =>WL.e 2 rfl<|Wa<|U0 rfl (fun c8 => ?_) (fun c8 => ?_)
    ·try simp only [DD] at c8
     refine K0<|W0 h7 [0] 5 rfl<|C0 (L1 (u := .pointer (some ⟨bC, i, none⟩)) (C1 underlying33 inf3 rfl rfl (n := i) rfl (by omega)) (by rw [add_mk, Nat.zero_add])) rfl<|I3 (n := i) (u := (255 : Int)) h7 1 rfl rfl rfl inf3 rfl (by rw [sk_len hlen (by omega)]; exact hO.fc) (by rw [sk_len hlen (by omega)]; omega) ?_
     intro  w9 h9
     try simp only [ZZ] at h9
     refine WL.nil<|WN.blk<|WN.blk<|H0<|K0<|C0 (Q0 rfl rfl (by omega)) rfl<|WL.e 1 rfl<|WL.nil ?_
     have hc1 : x.cs.getD i 0 = -1 := by simpa using c6
     have e9 := sk_to hlen hi2 (cod_two hc1 hts c8)
     exact X0 (i + 1) (by omega) ⟨rfl, rfl, rfl, rfl, trivial⟩ ⟨by omega, by rw [← e9]; exact h9⟩
    ·try simp only [DD] at c8
     refine Wi<|WL.e 1 rfl<|WL.cv can45 rfl rfl (Tal.state_c _ h7 (TR.at2 hTR (at5 hm1) (at5 hm2) (by omega))) fun w10 h10 =>WL.e 2 rfl<|Wa<|U0 rfl (fun c11 => ?_) (fun c11 => ?_)
     ·try simp only [DD] at c11
      refine I4 h10 (fun s_ => ([8] : List Nat).any (Nat.beq s_)) mixed (by kernel_rfl)<|fun hx =>fun w12 h12=>K3 hx 12 [3] [0, 1, 2, 4, 5, 3] [0] rfl<|WE.op (.inr h12) (i := 6) (by rfl) (by kernel_rfl)<|WL.cv can100 rfl rfl (Tal.code_c _ h12 (TR.at2 hTR (at5 hm1) (at5 hm2) (by omega))) fun w13 h13 =>WL.nil<|U1<|R2 hx 7 (by rfl) (fun w_ => L1 (u := .pointer (some ⟨bC, i, none⟩)) (C1 underlying33 inf3 rfl rfl (n := i) rfl (by omega)) (by rw [add_mk, Nat.zero_add])) rfl<|WE.op (.inr h13) (i := 8) (by rfl) (by kernel_rfl)<|I3 (n := i) (u := (t.code : Int)) h13 1 rfl rfl rfl inf3 rfl (by rw [sk_len hlen (by omega)]; exact hO.fc) (by rw [sk_len hlen (by omega)]; omega) ?_
      intro  w14 h14
      try simp only [ZZ] at h14
      refine WL.nil<|U1<|WE.fin (.inl ⟨8, rfl, by kernel_rfl⟩) (by kernel_rfl)<|WN.blk<|WN.blk<|H0<|K0<|C0 (Q0 rfl rfl (by omega)) rfl<|WL.e 1 rfl<|WL.nil ?_
      have hc1 : x.cs.getD i 0 = -1 := by simpa using c6
      have e9 := sk_to hlen hi2 (cod_three hc1 hts c8 c11)
      exact X0 (i + 1) (by omega) ⟨rfl, rfl, rfl, rfl, trivial⟩ ⟨by omega, by rw [← e9]; exact h14⟩
     ·try simp only [DD] at c11
      refine O0<|WN.blk<|WN.blk<|H0<|K0<|C0 (Q0 rfl rfl (by omega)) rfl<|WL.e 1 rfl<|WL.nil ?_
      have hc1 : x.cs.getD i 0 = -1 := by simpa using c6
      have e9 := sk_same hlen hi2 (cod_else hc1 hts c8 c11)
      exact X0 (i + 1) (by omega) ⟨rfl, rfl, rfl, rfl, trivial⟩ ⟨by omega, by rw [← e9]; exact h10⟩
 ·try simp only [DD] at c2
  refine WC.exit (Q1 (WX.cut (S1 (H0 (L0 ?_)))))
  obtain rfl : i = x.cs.length := by omega
  rw [sk_n hlen] at hL
  have hsl : (seen x.ak x.cs x.ts).length = x.ss.length := (seen_len hlen).trans hlc
  refine O3 (fun w_ => St W _ _ w_) (fun k => Nat.beq k 10 || Nat.beq k 16) mixed (by kernel_rfl) (hL.drew)<|fun hx =>WM.e hx 5 rfl<|WM.val 12 hx (by rfl) rfl (by kernel_rfl) (fun w_ hC_ => I0 underlying34 rfl rfl (hC_.ocell (i := 0) rfl rfl)) rfl<|WM.e hx 3 rfl<|WM.val 12 hx (by rfl) rfl (by kernel_rfl) (fun w_ hC_ => I0 underlying33 rfl rfl (hC_.ocell (i := 0) rfl rfl)) rfl<|Z3 hx rfl (by decide) (by kernel_rfl) fun w15 h15=>WD.op (by rfl) rfl (by kernel_rfl)<|H1 can101 rfl rfl (settleJ _ (l := x.ss) h15 (i := 1) rfl hO.st (by rw [hsl]; omega) (seen_len hlen).symm hok.with0) ?_
  rintro _ w16 ⟨rr, vv, rfl, hrow, h16⟩
  refine ⟨_, rfl, ?_⟩
  obtain ⟨bb, zs, fz, rfl, rfl, hfz⟩ := Row.blk hrow (by show 0 < x.cs'.length; rw [hok.len']; omega)
  refine WL.nil<|L3<|X2 hx (by rfl) (fun w_ => F2 rfl) rfl<|X2 hx (by rfl) (fun w_ => Runs.extract rfl rfl) rfl<|X2 hx (by rfl) (fun w_ => Runs.extract rfl rfl) rfl<|X2 hx (by rfl) (fun w_ => X4 rfl) rfl<|X2 hx (by rfl) (fun w_ => Runs.fld fld83_6 rfl) rfl<|WD.op (by rfl) rfl (by kernel_rfl)<|F1 h16 1 rfl rfl rfl inf33 rfl rfl (Free.zero _) (Nat.le_of_ble_eq_true rfl) ?_
  intro  w17 h17
  try simp only [ZZ] at h17
  refine WL.nil<|L3<|WD.fin rfl (by kernel_rfl)<|H0 (L0 ?_)
  replace h17 : St W F (jB x.mid b bb bT m1 m2 A B cap cap2 ps zs zt :: cB x.cs' bb zs fz :: tB ps bT zt ft :: [(m1, mobj l1)] :: [(m2, mobj l2)] :: (tm ++ cs)) w17 := St.swap2 (h17.drop 2)
  refine O3 (fun w_ => St W _ _ w_) (fun k => Nat.beq k 9) mixed (by kernel_rfl) (h17.drew)<|fun hx =>WM.e hx 4 rfl<|WM.val 12 hx (by rfl) rfl (by kernel_rfl) (fun w_ hC_ => I0 underlying34 rfl rfl (hC_.ocell (i := 0) rfl rfl)) rfl<|WM.e hx 3 rfl<|WM.val 12 hx (by rfl) rfl (by kernel_rfl) (fun w_ hC_ => I0 underlying33 rfl rfl (hC_.ocell (i := 0) rfl rfl)) rfl<|Z3 hx rfl (by decide) (by kernel_rfl) fun w18 h18=>WD.op (by rfl) rfl (by kernel_rfl)<|H1 can102 rfl rfl (readyJ _ (l := x.ss) (c := x.cs') h18 (i := 1) (zc := zs) (fc := fz) rfl hO.st (by show x.cs'.length ≤ 16; rw [hok.len']; omega) rfl (Dg.settle_with hok.with0) hfz) ?_
  rintro _ w19 ⟨G2, A9, cap9, hle2, rfl, hcap9, hrd9, h19⟩
  refine ⟨_, rfl, ?_⟩
  have hO2 := hO.mono hle2
  refine WL.nil<|L3<|X2 hx (by rfl) (fun w_ => F2 rfl) rfl<|X2 hx (by rfl) (fun w_ => Runs.extract rfl rfl) rfl<|X2 hx (by rfl) (fun w_ => Runs.extract rfl rfl) rfl<|X2 hx (by rfl) (fun w_ => Runs.assign rfl) rfl<|X2 hx (by rfl) (fun w_ => Runs.assign rfl) rfl<|WD.fin rfl (by kernel_rfl)<|H0<|L0<|Wi<|WL.e 1 rfl<|C0 (N0 (n := ((readyM x.ss x.cs').length : Int)) (R0 underlying33 rfl rfl) rfl) rfl<|WL.e 1 rfl<|Wj<|WC.lp (σ := Nat × Snap × List (Option Nat) × List Res) (fun q_ => [(0, .pointer (some ⟨b, 0, none⟩)), (99, .slice A9 (readyM x.ss x.cs').length cap9), (100, .int .i64 ((readyM x.ss x.cs').length : Int)), (101, .int .i64 (q_.1 : Int))]) (fun q_ w => q_.1 ≤ (readyM x.ss x.cs').length ∧ Le G2 q_.2.1 ∧ TalsR QP q_.2.1 (opnN x q_.1) q_.2.2.1 q_.2.2.2 ∧ Free ft (q_.2.2.1.length + zt.length) ∧ q_.2.2.1.length = ps.length ∧ St W q_.2.1 (jB x.mid b bb bT m1 m2 A B cap cap2 ps zs zt :: cB x.cs' bb zs fz :: tB q_.2.2.1 bT zt ft :: [(m1, mobj l1)] :: [(m2, mobj l2)] :: (q_.2.2.2 ++ cs)) w) (fun q_ => (readyM x.ss x.cs').length - q_.1) (⟨0, G2, ps, tm⟩) (⟨Nat.zero_le _, Le.refl _, hO2.ta, hO.ft, rfl, h19⟩) ?_
  rintro ⟨j, G3, ps3, tm3⟩ w20 ⟨hj, hle3, hta, hft3, hlp3, hL⟩
  try dsimp only at hj hle3 hta hft3 hlp3 hL
  refine O2 [(0, .pointer (some ⟨b, 0, none⟩)), (99, .slice A9 (readyM x.ss x.cs').length cap9), (100, .int .i64 ((readyM x.ss x.cs').length : Int)), (101, .int .i64 (j : Int))] ?_
  have hO3 := hO2.mono hle3
  have hns16 : x.ns.length ≤ 100000 := by have := Tal.oks_len hok.ns.2; omega
  refine Wi<|WL.e 1 rfl<|Wb<|U0 rfl (fun c21 => ?_) (fun c21 => ?_)
  ·try simp only [DD] at c21
   refine O0 (H0 (L0 (WC.block (L0 ?_))))
   have hj2 : j < (readyM x.ss x.cs').length := by omega
   have hyr := ready_lt hok hj2
   obtain ⟨ad9, rfl, hrdj⟩ := rd1 (hrd9.mono hle3) (by omega)
   obtain ⟨y, hy⟩ : ∃ y, (readyM x.ss x.cs').getD j 0 = y := ⟨_, rfl⟩
   rw [hy] at hyr
   have hy0 : (readyM x.ss x.cs').getD j 0 = (y.toNat : Int) := by omega
   have hyl : y.toNat < x.ts.length := by omega
   refine K0<|C0 (C1 underlying33 inf3 rfl rfl (n := j) rfl (by omega)) rfl<|C0 (T1 (f := Vi) (0 : Int) hL hrdj (n := j) (by omega) underlying3 rfl rfl) rfl<|WL.e 1 rfl<|WL.nil (H0 (L0 ?_))
   rcases hty : (opnN x j).getD y.toNat none with _ | t
   ·obtain ⟨hp, hm1, hm2⟩ := hta.no y.toNat (by rw [opnN_len]; exact hyl) hty
    refine K0<|W0 hL [0] 5 rfl<|C0 (C1 underlying80 inf97 rfl rfl (n := y.toNat) hy0 (by omega)) rfl<|C0 (L1 (u := .pointer none) (Y1 (none : Option Nat) hL 2 rfl (Z2 (E := 97) (f := pv) (b := bT) (fz := ft) (xs := ps3) (zs := zt) rfl hft3) (n := y.toNat) (by omega) underlying97 rfl rfl) (by rw [hp]; rfl)) rfl<|C0 (Bt (V1 underlying97 rfl rfl) rfl) rfl<|Wa<|B1 rfl (rfl)<|M2 hL hL (fun s_ => ([12] : List Nat).any (Nat.beq s_)) mixed (by kernel_rfl)<|fun hx =>fun w22 h22=>K3 hx 12 [3, 9] [0, 1, 2, 4, 5, 6, 7, 8, 3, 9] [0, 0] rfl<|WE.op (.inr h22) (i := 10) (by rfl) (by kernel_rfl)<|H1 can97 rfl rfl (Tal.new_c _ h22 hO3.nd hns16 hok.ns.2 hok.ns.1) ?_
    rintro _ w23 ⟨G4, bt, mv, mc, lv, lc, rfl, hle4, h23, hTR4⟩
    refine ⟨_, rfl,WL.nil<|U1<|R2 hx 11 (by rfl) (fun w_ => L1 (u := .pointer (some ⟨bT, y.toNat, none⟩)) (C1 underlying80 inf97 rfl rfl (n := y.toNat) hy0 (by omega)) (by rw [add_mk, Nat.zero_add])) rfl<|WE.op (.inr (((h23.weak hle4).drop 1).drop 0)) (i := 12) (by rfl) (by kernel_rfl)<|I3 (n := y.toNat) (u := (some bt : Option Nat)) h23 4 rfl rfl rfl inf97 rfl hft3 (by omega) ?_⟩
    intro  w24 h24
    try simp only [ZZ] at h24
    refine WL.nil<|U1<|WE.fin (.inl ⟨12, rfl, by kernel_rfl⟩) (by kernel_rfl)<|WN.blk<|H0<|K0<|C0 (Q0 rfl rfl (by omega)) rfl<|WL.e 1 rfl<|WL.nil ?_
    have hta4 := hta.mono (fun _ _ _ _ => QP.mono hle4)
    have hta5 := hta4.put (i := y.toNat) (by rw [opnN_len]; exact hyl) (TR.two hTR4)
    have e9 : opnN x (j + 1) = (opnN x j).set y.toNat (some (T.new x.ns)) := by
     rw [opnN_s hj2, hy]
     unfold opn1
     rw [hty]; rfl
    have hlm3 := hta.lm
    rw [opnN_len] at hlm3
    have hS7 := St.two5 h24 hm1 hm2
    exact X0 (⟨j + 1, G4, _, _⟩ : Nat × Snap × List (Option Nat) × List Res) (by show _ - (j + 1) < _ - j; omega) ⟨rfl, rfl, rfl, rfl, trivial⟩ ⟨by show j + 1 ≤ _; omega, Le.trans hle3 hle4, (by show TalsR QP G4 (opnN x (j + 1)) _ _; rw [e9]; exact hta5), (by show Free ft _; rw [List.length_set]; exact hft3), (by show (List.set _ _ _).length = _; rw [List.length_set]; exact hlp3), hS7⟩
   ·obtain ⟨bt, q1, q2, hp, hm1, hm2, mv, mc, lv, lc, hTR⟩ := hta.ye y.toNat t hty
    refine K0<|W0 hL [0] 5 rfl<|C0 (C1 underlying80 inf97 rfl rfl (n := y.toNat) hy0 (by omega)) rfl<|C0 (L1 (u := .pointer (some ⟨bt, 0, none⟩)) (Y1 (none : Option Nat) hL 2 rfl (Z2 (E := 97) (f := pv) (b := bT) (fz := ft) (xs := ps3) (zs := zt) rfl hft3) (n := y.toNat) (by omega) underlying97 rfl rfl) (by rw [hp]; rfl)) rfl<|C0 (Bf (V1 underlying97 rfl rfl) rfl) rfl<|Wa<|V0 rfl (rfl)<|O0<|WN.blk<|H0<|K0<|C0 (Q0 rfl rfl (by omega)) rfl<|WL.e 1 rfl<|WL.nil ?_
    have e9 : opnN x (j + 1) = opnN x j := by
     rw [opnN_s hj2, hy]
     unfold opn1
     rw [hty]; rfl
    exact X0 (⟨j + 1, G3, ps3, tm3⟩ : Nat × Snap × List (Option Nat) × List Res) (by show _ - (j + 1) < _ - j; omega) ⟨rfl, rfl, rfl, rfl, trivial⟩ ⟨by show j + 1 ≤ _; omega, hle3, (by show TalsR QP G3 (opnN x (j + 1)) _ _; rw [e9]; exact hta), hft3, hlp3, hL⟩
  ·try simp only [DD] at c21
   refine WC.exit (Q1 (WX.cut (S1 (H0 (L0 ?_)))))
   obtain rfl : j = (readyM x.ss x.cs').length := by omega
   have hta : TalsR QP G3 x.mid.ts ps3 tm3 := by
    have e9 : opnN x (readyM x.ss x.cs').length = x.mid.ts := by unfold opnN; rw [List.take_of_length_le (Nat.le_refl _)]; rfl
    rwa [e9] at hta
   refine O3 (fun w_ => St W _ _ w_) (fun k => Nat.beq k 9) mixed (by kernel_rfl) (hL.drew)<|fun hx =>WM.e hx 4 rfl<|WM.val 12 hx (by rfl) rfl (by kernel_rfl) (fun w_ hC_ => I0 underlying34 rfl rfl (hC_.ocell (i := 0) rfl rfl)) rfl<|WM.e hx 3 rfl<|WM.val 12 hx (by rfl) rfl (by kernel_rfl) (fun w_ hC_ => I0 underlying33 rfl rfl (hC_.ocell (i := 0) rfl rfl)) rfl<|Z3 hx rfl (by decide) (by kernel_rfl) fun w25 h25=>WD.op (by rfl) rfl (by kernel_rfl)<|WL.cv can103 rfl rfl (overJ _ (l := x.ss) (c := x.cs') h25 (i := 1) (zc := zs) (fc := fz) rfl hO3.st (by show x.cs'.length ≤ 16; rw [hok.len']; omega) rfl (Dg.settle_with hok.with0)) fun w26 h26 =>WL.nil<|L3<|X2 hx (by rfl) (fun w_ => F2 rfl) rfl<|X2 hx (by rfl) (fun w_ => Runs.extract rfl rfl) rfl<|X2 hx (by rfl) (fun w_ => Runs.extract rfl rfl) rfl<|X2 hx (by rfl) (fun w_ => Runs.assign rfl) rfl<|X2 hx (by rfl) (fun w_ => Runs.assign rfl) rfl<|WD.fin rfl (by kernel_rfl)<|H0 (WC.block (L0 ?_))
   obtain ⟨r9, hJ9, hS9⟩ := JobR.close (x := x.mid) (ps := ps3) (tm := tm3) (bC := bb) (zc := zs) (fc := fz) (show St W _ (jB x.mid b bb bT m1 m2 A B cap cap2 ps3 zs zt :: cB x.mid.cs bb zs fz :: tB ps3 bT zt ft :: [(m1, mobj l1)] :: [(m2, mobj l2)] :: (tm3 ++ cs)) _ from by rw [jB_len (show ps3.length = ps.length by omega)]; exact h26) ⟨hO3.nd, hO3.st, hfz, hft3, hta, hO3.r1, hO3.r2⟩
   refine K0<|WL.e 1 rfl<|C0 (Runs.boolT (c := (!(overM x.ss x.cs').2)) (E1 rfl) rfl) rfl<|WL.e 1 rfl<|Wa<|U0 rfl (fun c27 => ?_) (fun c27 => ?_)
   ·try simp only [DD] at c27
    refine O0<|WN.blk<|end0 rfl ⟨rfl, G3, r9, Le.trans hle2 hle3, (look_a c27) ▸ hJ9, hS9⟩
   ·try simp only [DD] at c27
    refine L0 ?_
    rcases hak : x.ak with _ | _
    ·skip
     refine K0<|WL.e 3 rfl<|C0 (Bf (I0 underlying4 rfl rfl (h26.ocell (i := 0) rfl rfl)) hak) rfl<|WL.e 5 rfl<|Wa<|U0 rfl (fun c28 => ?_) (fun c28 => ?_)
     ·try simp only [DD] at c28
      refine K0<|WL.e 2 rfl<|WL.cv can86 rfl rfl (finish_c _ hS9 hJ9 1 (overM x.ss x.cs').1) fun w29 ⟨r8, hJ8, h29⟩ =>WL.nil<|WN.blk<|end0 rfl ⟨rfl, G3, r8, Le.trans hle2 hle3, (look_b c27 (.inr c28)) ▸ hJ8, h29⟩
     ·try simp only [DD] at c28
      refine K0<|WL.e 1 rfl<|WL.cv can86 rfl rfl (finish_c _ hS9 hJ9 0 0) fun w30 ⟨r8, hJ8, h30⟩ =>WL.nil<|WN.blk<|end0 rfl ⟨rfl, G3, r8, Le.trans hle2 hle3, (look_d c27 (by rintro (h0 | h0); rw [hak] at h0; cases h0; exact h0 c28)) ▸ hJ8, h30⟩
    ·skip
     refine K0<|WL.e 3 rfl<|C0 (Bt (I0 underlying4 rfl rfl (h26.ocell (i := 0) rfl rfl)) hak) rfl<|WL.e 5 rfl<|Wa<|B1 rfl (rfl)<|K0<|WL.e 2 rfl<|WL.cv can86 rfl rfl (finish_c _ hS9 hJ9 1 (overM x.ss x.cs').1) fun w31 ⟨r8, hJ8, h31⟩ =>WL.nil<|WN.blk<|end0 rfl ⟨rfl, G3, r8, Le.trans hle2 hle3, (look_b c27 (.inl hak)) ▸ hJ8, h31⟩
theorem can59 : B.Can prog 59 := ⟨_, func59, by kernel_rfl, rfl⟩
theorem can60 : B.Can prog 60 := ⟨_, func60, by kernel_rfl, rfl⟩
theorem Runs.mlen {P : Program} {sl : Sl} {W w : World} {F : Snap} {cs : List Res} {x : Operand} {t T K E : TypeId} {ts : Array TypeId} {b : Nat} {l : List (Int × Value)} (h : St W F cs w) (i : Nat) (hi : cs[i]? = some [(b, mobj l)]) (hu : P.underlying T = some (.map K E)) (hts : ts = #[T]) (hx : evs sl x = some (.map (some b))) :
  Runs P sl (.call { callee := .builtin .len, args := #[x], argTypes := ts }) t w (.int .i64 l.length) := fun ρ h' o ho _ => by
 subst hts
 have hb := h.blk hi
 have e1 : (ments 0 l).length = l.length := ments_len l 0
 simp [execOp, ho, h' _ _ hx, resolve, invoke, builtin, Builtin.len_, underlying, program, hu, pure, Sem.run, bind, Sem.bind, goInt, getObj, hb, mobj, e1]
theorem started_a {x : J} {n a : Int} (h : a = 0) (h2 : (x.hasR n).rd.length = x.ns.length) : (x.hasR n).run.look = x.started n a := by
 unfold J.started
 rw [if_pos h, if_pos h2]
theorem started_b {x : J} {n a : Int} (h : a = 0) (h2 : ¬ (with_ x.rd n).length = x.ns.length) : x.hasR n = x.started n a := by
 unfold J.started
 rw [if_pos h]
 exact (if_neg h2).symm
theorem started_c1 {x : J} {n a : Int} (h : ¬ a = 0) (h2 : x.ep < 3) : x.fin 2 0 = x.started n a := by
 unfold J.started
 rw [if_neg h, if_pos h2]
theorem started_d {x : J} {n a : Int} (h : ¬ a = 0) (h2 : ¬ x.ep < 3) : x.fin 1 0 = x.started n a := by
 unfold J.started
 rw [if_neg h, if_neg h2]
theorem left_a {x : J} {n : Int} (h : (with_ x.gn n).length < x.ns.length) : x.hasG n = x.left n := (if_pos h).symm
theorem left_b {x : J} {n : Int} (h : ¬ (with_ x.gn n).length < x.ns.length) (h2 : x.ft = 2) : { x.hasG n with ep := x.ep + 1 }.begin = x.left n := ((if_neg h).trans (if_pos h2)).symm
theorem left_d {x : J} {n : Int} (h : ¬ (with_ x.gn n).length < x.ns.length) (h2 : ¬ x.ft = 2) : { x.hasG n with ph := 3 } = x.left n := ((if_neg h).trans (if_neg h2)).symm
theorem St.keep1 {W w : World} {F : Snap} {cs tm : List Res} {a b c d e : Res} (h : St W F (a :: b :: c :: d :: e :: (tm ++ cs)) w) : St W F (a :: cs) w := h.subl (by
 simp only [List.flatten_cons, List.flatten_append]
 refine (List.Sublist.refl _).append ?_
 iterate 5 refine List.sublist_append_of_sublist_right ?_
 exact List.Sublist.refl _)
theorem mset_keys (n : Int) (v : Value) : ∀ (l : List (Int × Value)), (mset n v l).map (·.1) = with_ (l.map (·.1)) n
 |[] => rfl
 |q :: l => by
  unfold mset with_
  by_cases e : n = q.1
  ·rw [if_pos e, if_pos (by rw [e]; exact List.mem_cons_self)]
   simp [e]
  ·have ih := mset_keys n v l
   unfold with_ at ih
   rw [if_neg e, List.map_cons, List.map_cons, ih]
   by_cases hm : n ∈ l.map (·.1)
   ·rw [if_pos hm, if_pos (List.mem_cons_of_mem _ hm)]
   ·rw [if_neg hm, if_neg (fun hh => by rcases List.mem_cons.1 hh with h1 | h1; exact e h1; exact hm h1)]
    rfl
theorem mset_klen (n : Int) (v : Value) (l : List (Int × Value)) {rd : List Int} (h : l.map (·.1) = rd) : (mset n v l).length = (with_ rd n).length := by
 have := congrArg List.length (mset_keys n v l)
 rw [List.length_map, h] at this
 exact this
theorem started_c {cs : List Res} (w : World) {r : Res} {b : Nat} {x : J} (h : St W F (r :: cs) w) (hJ : JobR F r b x) (node arg : Int) (hok : x.ok) (hn : node ∈ x.ns) : Calls prog 41 #[.pointer (some ⟨b, 0, none⟩), Vi node, Vi arg] w fun e w' => e = .returned (.tuple #[]) ∧ ∃ G r', Le F G ∧ JobR G r' b (x.started node arg) ∧ St W G (r' :: cs) w'  := by
 refine enter (args := [.pointer (some ⟨b, 0, none⟩), Vi node, Vi arg]) func41 rfl rfl rfl ?_
 obtain ⟨bC, bT, m1, m2, A, B, cap, cap2, ps, zc, zt, fc, ft, l1, l2, tm, h, hO⟩ := JobR.open_ h hJ
 have hls := (Dg.chk_ok hok.ss).2.1
 have hns := Tal.oks_len hok.ns.2
 have hlen1 := mset_klen node (Vi x.ep) l1 hO.r1
 refine WC.block<|Wi<|WL.e 3 rfl<|Wa<|U0 rfl (fun c1 => ?_) (fun c1 => ?_)
 ·try simp only [DD] at c1
  refine L0<|M2 h h (fun s_ => ([9] : List Nat).any (Nat.beq s_)) mixed (by kernel_rfl)<|fun hx =>fun w2 h2=>K3 hx 12 [3, 8] [0, 1, 2, 4, 5, 6, 7, 3, 8] [0, 0] rfl<|WE.op (.inr h2) (i := 9) (by rfl) (by kernel_rfl)<|F4 h2 3 rfl underlying81 underlying3 rfl rfl rfl ?_
  intro  w3 h3
  try simp only [ZZ] at h3
  refine WL.nil<|U1<|WE.fin (.inl ⟨9, rfl, by kernel_rfl⟩) (by kernel_rfl)<|H0<|L0<|M2 h3 h3 (fun s_ => ([] : List Nat).any (Nat.beq s_)) mixed (by kernel_rfl)<|fun hx =>fun w4 h4=>K3 hx 12 [3] [0, 1, 2, 5, 6, 7, 8, 3] [0] rfl<|E3 12 hx 4 (by rfl) (fun w_ hE_ => N0 (n := ((with_ x.rd node).length : Int)) (Runs.mlen hE_ 3 rfl underlying81 rfl rfl) (congrArg (fun n : Nat => (n : Int)) hlen1)) rfl<|K3 hx 12 [9] [9] [0] rfl<|R2 hx 10 (by rfl) (fun w_ => N0 (n := (x.ns.length : Int)) (R0 underlying33 rfl rfl) rfl) rfl<|WE.e hx [11] rfl<|WE.fin (.inr h4) (by kernel_rfl)<|H0<|U0 rfl (fun c5 => ?_) (fun c5 => ?_)
  ·try simp only [DD] at c5
   refine Wi<|WL.e 3 rfl<|F1 h4 0 rfl rfl rfl inf3 rfl rfl (Free.zero _) (Nat.le_of_ble_eq_true rfl) ?_
   intro  w6 h6
   try simp only [ZZ] at h6
   refine WL.nil (H0 ?_)
   have heq : (x.hasR node).rd.length = x.ns.length := by show (with_ x.rd node).length = _; omega
   obtain ⟨r9, hJ9, hS9⟩ := JobR.close (x := (x.hasR node).run) (l1 := mset node (Vi x.ep) l1) (l2 := l2) (tm := tm) (show St W F (jB ((x.hasR node).run) b bC bT m1 m2 A B cap cap2 ps zc zt :: cB x.cs bC zc fc :: tB ps bT zt ft :: [(m1, mobj (mset node (Vi x.ep) l1))] :: [(m2, mobj (l2))] :: (tm ++ cs)) _ from h6) ⟨hO.nd, hO.st, hO.fc, hO.ft, hO.ta, ((mset_keys _ _ _).trans (by rw [hO.r1]; rfl)), hO.r2⟩
   refine K0<|WL.e 1 rfl<|WL.cv can60 rfl rfl (look_c _ hS9 hJ9 (hok.hasR hn).run) fun w7 ⟨G9, r8, hle9, hJ8, h7⟩ =>WL.nil<|WN.blk<|end0 rfl ⟨rfl, G9, r8, hle9, (started_a c1 heq) ▸ hJ8, h7⟩
  ·try simp only [DD] at c5
   refine O0 (WN.blk ?_)
   obtain ⟨r9, hJ9, hS9⟩ := JobR.close (x := x.hasR node) (l1 := mset node (Vi x.ep) l1) (l2 := l2) (tm := tm) (show St W F (jB (x.hasR node) b bC bT m1 m2 A B cap cap2 ps zc zt :: cB x.cs bC zc fc :: tB ps bT zt ft :: [(m1, mobj (mset node (Vi x.ep) l1))] :: [(m2, mobj (l2))] :: (tm ++ cs)) _ from h4) ⟨hO.nd, hO.st, hO.fc, hO.ft, hO.ta, ((mset_keys _ _ _).trans (by rw [hO.r1]; rfl)), hO.r2⟩
   exact end0 rfl ⟨rfl, F, r9, Le.refl F, (started_b c1 (fun hh => c5 (congrArg (fun n : Nat => (n : Int)) hh))) ▸ hJ9, hS9⟩
 ·try simp only [DD] at c1
  refine Wi<|W0 h [0] 6 rfl<|Wa<|U0 rfl (fun c8 => ?_) (fun c8 => ?_)
  ·try simp only [DD] at c8
   obtain ⟨r9, hJ9, hS9⟩ := JobR.close (x := x) (l1 := l1) (l2 := l2) (tm := tm) (show St W F (jB (x) b bC bT m1 m2 A B cap cap2 ps zc zt :: cB x.cs bC zc fc :: tB ps bT zt ft :: [(m1, mobj (l1))] :: [(m2, mobj (l2))] :: (tm ++ cs)) _ from h) ⟨hO.nd, hO.st, hO.fc, hO.ft, hO.ta, hO.r1, hO.r2⟩
   refine K0<|WL.e 1 rfl<|WL.cv can86 rfl rfl (finish_c _ hS9 hJ9 2 0) fun w9 ⟨r8, hJ8, h9⟩ =>WL.nil<|WN.blk<|end0 rfl ⟨rfl, F, r8, Le.refl F, (started_c1 c1 c8) ▸ hJ8, h9⟩
  ·try simp only [DD] at c8
   obtain ⟨r9, hJ9, hS9⟩ := JobR.close (x := x) (l1 := l1) (l2 := l2) (tm := tm) (show St W F (jB (x) b bC bT m1 m2 A B cap cap2 ps zc zt :: cB x.cs bC zc fc :: tB ps bT zt ft :: [(m1, mobj (l1))] :: [(m2, mobj (l2))] :: (tm ++ cs)) _ from h) ⟨hO.nd, hO.st, hO.fc, hO.ft, hO.ta, hO.r1, hO.r2⟩
   refine K0<|WL.e 1 rfl<|WL.cv can86 rfl rfl (finish_c _ hS9 hJ9 1 0) fun w10 ⟨r8, hJ8, h10⟩ =>WL.nil<|WN.blk<|end0 rfl ⟨rfl, F, r8, Le.refl F, (started_d (x := x) (n := node) c1 (by omega)) ▸ hJ8, h10⟩
theorem left_c {cs : List Res} (w : World) {r : Res} {b : Nat} {x : J} (h : St W F (r :: cs) w) (hJ : JobR F r b x) (node : Int) (hok : x.ok) : Calls prog 43 #[.pointer (some ⟨b, 0, none⟩), Vi node] w fun e w' => e = .returned (.tuple #[]) ∧ ∃ G r', Le F G ∧ JobR G r' b (x.left node) ∧ St W G (r' :: cs) w'  := by
 refine enter (args := [.pointer (some ⟨b, 0, none⟩), Vi node]) func43 rfl rfl rfl ?_
 obtain ⟨bC, bT, m1, m2, A, B, cap, cap2, ps, zc, zt, fc, ft, l1, l2, tm, h, hO⟩ := JobR.open_ h hJ
 have hls := (Dg.chk_ok hok.ss).2.1
 have hns := Tal.oks_len hok.ns.2
 have hep := hok.ep
 have hlen1 := mset_klen node (Vi x.ep) l2 hO.r2
 refine L0<|M2 h h (fun s_ => ([9] : List Nat).any (Nat.beq s_)) mixed (by kernel_rfl)<|fun hx =>fun w1 h1=>K3 hx 12 [3, 8] [0, 1, 2, 4, 5, 6, 7, 3, 8] [0, 0] rfl<|WE.op (.inr h1) (i := 9) (by rfl) (by kernel_rfl)<|F4 h1 4 rfl underlying81 underlying3 rfl rfl rfl ?_
 intro  w2 h2
 try simp only [ZZ] at h2
 refine WL.nil<|U1<|WE.fin (.inl ⟨9, rfl, by kernel_rfl⟩) (by kernel_rfl)<|H0<|WC.block<|L0<|M2 h2 h2 (fun s_ => ([] : List Nat).any (Nat.beq s_)) mixed (by kernel_rfl)<|fun hx =>fun w3 h3=>K3 hx 12 [3] [0, 1, 2, 5, 6, 7, 8, 3] [0] rfl<|E3 12 hx 4 (by rfl) (fun w_ hE_ => N0 (n := ((with_ x.gn node).length : Int)) (Runs.mlen hE_ 4 rfl underlying81 rfl rfl) (congrArg (fun n : Nat => (n : Int)) hlen1)) rfl<|K3 hx 12 [9] [9] [0] rfl<|R2 hx 10 (by rfl) (fun w_ => N0 (n := (x.ns.length : Int)) (R0 underlying33 rfl rfl) rfl) rfl<|WE.e hx [11, 12] rfl<|WE.fin (.inr h3) (by kernel_rfl)<|H0<|U0 rfl (fun c4 => ?_) (fun c4 => ?_)
 ·try simp only [DD] at c4
  refine O0 (WN.blk ?_)
  obtain ⟨r9, hJ9, hS9⟩ := JobR.close (x := x.hasG node) (l1 := l1) (l2 := mset node (Vi x.ep) l2) (tm := tm) (show St W F (jB (x.hasG node) b bC bT m1 m2 A B cap cap2 ps zc zt :: cB x.cs bC zc fc :: tB ps bT zt ft :: [(m1, mobj (l1))] :: [(m2, mobj (mset node (Vi x.ep) l2))] :: (tm ++ cs)) _ from h3) ⟨hO.nd, hO.st, hO.fc, hO.ft, hO.ta, hO.r1, ((mset_keys _ _ _).trans (by rw [hO.r2]; rfl))⟩
  exact end0 rfl ⟨rfl, F, r9, Le.refl F, (left_a (x := x) (n := node) (by omega)) ▸ hJ9, hS9⟩
 ·try simp only [DD] at c4
  refine Wi<|W0 h3 [0] 6 rfl<|Wa<|U0 rfl (fun c5 => ?_) (fun c5 => ?_)
  ·try simp only [DD] at c5
   refine Wi<|W0 h3 [0] 4 rfl<|C0 (Q0 rfl rfl (by omega)) rfl<|WL.e 2 rfl<|F1 h3 0 rfl rfl rfl inf3 rfl rfl (Free.zero _) (Nat.le_of_ble_eq_true rfl) ?_
   intro  w6 h6
   try simp only [ZZ] at h6
   refine WL.nil (H0 ?_)
   replace h6 : St W F ([(b, .cells #[.slice A x.ns.length cap, .slice B x.ss.length cap2, Vi x.id, Vi (x.ep + 1), Vi x.ph, Vi x.ft, Vi x.cd, vC x bC zc, vT ps bT zt, .map (some m1), .map (some m2), .bool x.ak] 83 (0, 0))] :: cB x.cs bC zc fc :: tB ps bT zt ft :: [(m1, mobj l1)] :: [(m2, mobj (mset node (Vi x.ep) l2))] :: (tm ++ cs)) w6 := h6
   replace h6 := St.keep1 h6
   refine K0<|WL.e 1 rfl<|WL.cv can59 rfl rfl (begin_c (x := { x.hasG node with ep := x.ep + 1 }) _ h6 hO.nd hO.st hls.1 hls.2) fun w7 ⟨r8, hJ8, h7⟩ =>WL.nil<|WN.blk<|end0 rfl ⟨rfl, F, r8, Le.refl F, (left_b (x := x) (n := node) (by omega) c5) ▸ hJ8, h7⟩
  ·try simp only [DD] at c5
   refine K0<|WL.e 3 rfl<|F1 h3 0 rfl rfl rfl inf3 rfl rfl (Free.zero _) (Nat.le_of_ble_eq_true rfl) ?_
   intro  w8 h8
   try simp only [ZZ] at h8
   refine WL.nil (WN.blk ?_)
   obtain ⟨r9, hJ9, hS9⟩ := JobR.close (x := { x.hasG node with ph := 3 }) (l1 := l1) (l2 := mset node (Vi x.ep) l2) (tm := tm) (show St W F (jB ({ x.hasG node with ph := 3 }) b bC bT m1 m2 A B cap cap2 ps zc zt :: cB x.cs bC zc fc :: tB ps bT zt ft :: [(m1, mobj (l1))] :: [(m2, mobj (mset node (Vi x.ep) l2))] :: (tm ++ cs)) _ from h8) ⟨hO.nd, hO.st, hO.fc, hO.ft, hO.ta, hO.r1, ((mset_keys _ _ _).trans (by rw [hO.r2]; rfl))⟩
   exact end0 rfl ⟨rfl, F, r9, Le.refl F, (left_d (x := x) (n := node) (by omega) c5) ▸ hJ9, hS9⟩
theorem fld42_0 : fldB prog 42 0 0 = true := by kernel_rfl
theorem fld42_1 : fldB prog 42 1 1 = true := by kernel_rfl
theorem fld42_5 : fldB prog 42 5 5 = true := by kernel_rfl
theorem fld42_6 : fldB prog 42 6 6 = true := by kernel_rfl
theorem can87 : B.Can prog 87 := ⟨_, func87, by kernel_rfl, rfl⟩
theorem can88 : B.Can prog 88 := ⟨_, func88, by kernel_rfl, rfl⟩
theorem at6 {z a b c d e : Res} {tm cs : List Res} {k : Nat} {r : Res} (h : tm[k]? = some r) : (z :: a :: b :: c :: d :: e :: (tm ++ cs))[k + 6]? = some r := at5 (a := a) (b := b) (c := c) (d := d) (e := e) h
theorem set6 {z a b c d e : Res} {tm cs : List Res} {k : Nat} {r : Res} (hk : k < tm.length) : (z :: a :: b :: c :: d :: e :: (tm ++ cs)).set (k + 6) r = z :: a :: b :: c :: d :: e :: (tm.set k r ++ cs) := by
 simp only [List.set_cons_succ]
 rw [List.set_append_left _ _ hk]
theorem put_vote {W w : World} {F : Snap} {z a b c d e q r : Res} {tm cs : List Res} {i : Nat} (h : St W F ((z :: a :: b :: c :: d :: e :: (tm ++ cs)).set (2 * i + 6) r) w) (hm : tm[2 * i + 1]? = some q) (hk : 2 * i + 1 < tm.length) : St W F (z :: a :: b :: c :: d :: e :: ((tm.set (2 * i) r).set (2 * i + 1) q ++ cs)) w := by
 rw [set6 (by omega)] at h
 have e1 : (tm.set (2 * i) r).set (2 * i + 1) q = tm.set (2 * i) r := set_same (d := []) (by rw [List.length_set]; exact hk) (by rw [List.getD_eq_getElem?_getD, List.getElem?_set_ne (by omega), hm]; rfl)
 rw [e1]
 exact h
theorem put_exit {W w : World} {F : Snap} {z a b c d e q r : Res} {tm cs : List Res} {i : Nat} (h : St W F ((z :: a :: b :: c :: d :: e :: (tm ++ cs)).set (2 * i + 1 + 6) r) w) (hm : tm[2 * i]? = some q) (hk : 2 * i + 1 < tm.length) : St W F (z :: a :: b :: c :: d :: e :: ((tm.set (2 * i) q).set (2 * i + 1) r ++ cs)) w := by
 rw [set6 (by omega)] at h
 have e1 : tm.set (2 * i) q = tm := set_same (d := []) (by omega) (by rw [List.getD_eq_getElem?_getD, hm]; rfl)
 rw [e1]
 exact h
theorem said_cases (x : J) (m : M) : (x.ts.length : Int) ≤ m.st ∨ (¬ (x.ts.length : Int) ≤ m.st ∧ x.ts.getD m.st.toNat none = none) ∨ ∃ t, ¬ (x.ts.length : Int) ≤ m.st ∧ x.ts.getD m.st.toNat none = some t := by
 by_cases h : (x.ts.length : Int) ≤ m.st
 ·exact .inl h
 ·rcases ht : x.ts.getD m.st.toNat none with _ | t
  ·exact .inr (.inl ⟨h, rfl⟩)
  ·exact .inr (.inr ⟨t, h, rfl⟩)
theorem said_a {x : J} {m : M} (h : (x.ts.length : Int) ≤ m.st) : x.said m = (false, x) := if_pos h
theorem said_b {x : J} {m : M} (h : ¬ (x.ts.length : Int) ≤ m.st) (h2 : x.ts.getD m.st.toNat none = none) : x.said m = (false, x) := by
 unfold J.said
 rw [if_neg h, h2]
theorem said_c1 {x : J} {m : M} {t : T} (h : ¬ (x.ts.length : Int) ≤ m.st) (h2 : x.ts.getD m.st.toNat none = some t) (h3 : ¬ (says t m).1 = 0) : x.said m = (false, x) := by
 unfold J.said
 rw [if_neg h, h2]
 exact if_pos h3
theorem said_d {x : J} {m : M} {t : T} (h : ¬ (x.ts.length : Int) ≤ m.st) (h2 : x.ts.getD m.st.toNat none = some t) (h3 : (says t m).1 = 0) : x.said m = (true, (x.put m.st.toNat (says t m).2).look) := by
 unfold J.said
 rw [if_neg h, h2]
 exact if_neg (fun hh => hh h3)
theorem says_v {t : T} {m : M} (h : m.k = 3) : says t m = t.vote m.f (decide (m.ar = 1)) := if_pos h
theorem says_e {t : T} {m : M} (h : ¬ m.k = 3) : says t m = t.exit m.f m.ar := if_neg h
theorem say_no {α : Type} [DecidableEq α] {ns : List Int} {os : List (Option α)} {n : Int} {x : α} {b : Bool} (h : ¬ (Tal.say ns os n x b).1 = 0) : (Tal.say ns os n x b).2 = os := by
 unfold Tal.say at h ⊢
 split
 ·rfl
 ·split <;> rfl
 ·rename_i e
  rw [e] at h
  split
  ·rename_i hb
   simp [hb] at h
  ·rfl
theorem says_no {t : T} {m : M} (h : ¬ (says t m).1 = 0) : (says t m).2 = t := by
 unfold says at h ⊢
 split
 ·rename_i hk
  rw [if_pos hk] at h
  have := say_no h
  unfold T.vote
  rw [this]
 ·rename_i hk
  rw [if_neg hk] at h
  unfold T.exit at h ⊢
  split
  ·rfl
  ·rename_i hb
   rw [if_neg hb] at h
   have := say_no h
   rw [this]
theorem said_c {cs : List Res} (w : World) {r : Res} {b : Nat} {x : J} (h : St W F (r :: cs) w) (hJ : JobR F r b x) (m : M) (hok : x.ok) (hst : 0 ≤ m.st) : Calls prog 42 #[.pointer (some ⟨b, 0, none⟩), m.val] w fun e w' => e = .returned (.bool (x.said m).1) ∧ ∃ G r', Le F G ∧ JobR G r' b (x.said m).2 ∧ St W G (r' :: cs) w'  := by
 refine enter (args := [.pointer (some ⟨b, 0, none⟩), .agg #[Vi m.k, Vi m.f, Vi m.t, Vi m.j, Vi m.ep, Vi m.st, Vi m.ar, .string (bs m.tx)]]) func42 rfl rfl rfl ?_
 obtain ⟨bC, bT, m1, m2, A, B, cap, cap2, ps, zc, zt, fc, ft, l1, l2, tm, h, hO⟩ := JobR.open_ h hJ
 have hls := (Dg.chk_ok hok.ss).2.1
 have hlp := hO.ta.lp
 have hlm := hO.ta.lm
 have hm0 : m.st = (m.st.toNat : Int) := by omega
 refine Wi<|WL.box rfl h rfl fun b3 w1 h1=>WL.e 1 rfl<|WL.nil (H0 (L0 (L0 ?_)))
 rcases said_cases x m with hA | ⟨hA, hts⟩ | ⟨t, hA, hts⟩
 ·skip
  refine M2 h1 h1 (fun s_ => ([] : List Nat).any (Nat.beq s_)) mixed (by kernel_rfl)<|fun hx =>fun w2 h2=>K3 hx 12 [1, 5] [0, 2, 3, 4, 1, 5] [0, 1] rfl<|R2 hx 6 (by rfl) (fun w_ => N0 (n := (x.ts.length : Int)) (R0 underlying80 rfl rfl) (congrArg (fun n : Nat => (n : Int)) hlp)) rfl<|R2 hx 7 (by rfl) (fun w_ => Bt (Z0 rfl rfl) (decide_eq_true hA)) rfl<|WE.e hx [8, 9, 10, 11, 12, 13, 14, 15, 16, 17, 18] rfl<|WE.fin (.inr h2) (by kernel_rfl)<|H0<|B1 rfl (rfl)<|Wi<|WL.e 1 rfl<|WL.nil (H0 (I1 ?_))
  replace h2 := h2.drop 0
  obtain ⟨r9, hJ9, hS9⟩ := JobR.close (x := x) h2 hO
  refine ret1 rfl rfl ?_
  rw [said_a hA]
  exact ⟨rfl, F, r9, Le.refl F, hJ9, hS9⟩
 ·have hi3 : m.st.toNat < x.ts.length := by omega
  obtain ⟨hp, hm1, hm2⟩ := hO.ta.no _ hi3 hts
  refine M2 h1 h1 (fun s_ => ([] : List Nat).any (Nat.beq s_)) mixed (by kernel_rfl)<|fun hx =>fun w3 h3=>K3 hx 12 [1, 5] [0, 2, 3, 4, 1, 5] [0, 1] rfl<|R2 hx 6 (by rfl) (fun w_ => N0 (n := (x.ts.length : Int)) (R0 underlying80 rfl rfl) (congrArg (fun n : Nat => (n : Int)) hlp)) rfl<|R2 hx 7 (by rfl) (fun w_ => Bf (Z0 rfl rfl) (decide_eq_false hA)) rfl<|K3 hx 12 [12, 14] [8, 9, 10, 11, 13, 12, 14] [1, 0] rfl<|T2 (j := 8) (b := false) hx 15 (by rfl) ⟨_, _, rfl, rfl, rfl⟩ (fun w_ => C1 underlying80 inf97 rfl rfl (n := m.st.toNat) hm0 (by omega)) rfl<|B3 (j := 8) (b := false) 12 hx 16 (by rfl) ⟨_, _, rfl, rfl, rfl⟩ (fun w_ hE_ => L1 (u := .pointer none) (Y1 (none : Option Nat) hE_ 3 rfl (Z2 (E := 97) (f := pv) (b := bT) (fz := ft) (xs := ps) (zs := zt) rfl hO.ft) (n := m.st.toNat) (by omega) underlying97 rfl rfl) (by rw [hp]; rfl)) rfl<|T2 (j := 8) (b := false) hx 17 (by rfl) ⟨_, _, rfl, rfl, rfl⟩ (fun w_ => Bt (V1 underlying97 rfl rfl) rfl) rfl<|WE.e hx [18] rfl<|WE.fin (.inr h3) (by kernel_rfl)<|H0<|B1 rfl (rfl)<|Wi<|WL.e 1 rfl<|WL.nil (H0 (I1 ?_))
  replace h3 := h3.drop 0
  obtain ⟨r9, hJ9, hS9⟩ := JobR.close (x := x) h3 hO
  refine ret1 rfl rfl ?_
  rw [said_b hA hts]
  exact ⟨rfl, F, r9, Le.refl F, hJ9, hS9⟩
 ·have hi3 : m.st.toNat < x.ts.length := by omega
  obtain ⟨bt, q1, q2, hp, hm1, hm2, mv, mc, lv, lc, hTR⟩ := hO.ta.ye _ t hts
  have hmq1 : tm[2 * m.st.toNat]? = some [(mv, mobj lv)] := hm1.trans hTR.iv
  have hmq2 : tm[2 * m.st.toNat + 1]? = some [(mc, mobj lc)] := hm2.trans hTR.ic
  refine M2 h1 h1 (fun s_ => ([] : List Nat).any (Nat.beq s_)) mixed (by kernel_rfl)<|fun hx =>fun w4 h4=>K3 hx 12 [1, 5] [0, 2, 3, 4, 1, 5] [0, 1] rfl<|R2 hx 6 (by rfl) (fun w_ => N0 (n := (x.ts.length : Int)) (R0 underlying80 rfl rfl) (congrArg (fun n : Nat => (n : Int)) hlp)) rfl<|R2 hx 7 (by rfl) (fun w_ => Bf (Z0 rfl rfl) (decide_eq_false hA)) rfl<|K3 hx 12 [12, 14] [8, 9, 10, 11, 13, 12, 14] [1, 0] rfl<|T2 (j := 8) (b := false) hx 15 (by rfl) ⟨_, _, rfl, rfl, rfl⟩ (fun w_ => C1 underlying80 inf97 rfl rfl (n := m.st.toNat) hm0 (by omega)) rfl<|B3 (j := 8) (b := false) 12 hx 16 (by rfl) ⟨_, _, rfl, rfl, rfl⟩ (fun w_ hE_ => L1 (u := .pointer (some ⟨bt, 0, none⟩)) (Y1 (none : Option Nat) hE_ 3 rfl (Z2 (E := 97) (f := pv) (b := bT) (fz := ft) (xs := ps) (zs := zt) rfl hO.ft) (n := m.st.toNat) (by omega) underlying97 rfl rfl) (by rw [hp]; rfl)) rfl<|T2 (j := 8) (b := false) hx 17 (by rfl) ⟨_, _, rfl, rfl, rfl⟩ (fun w_ => Bf (V1 underlying97 rfl rfl) rfl) rfl<|WE.e hx [18] rfl<|WE.fin (.inr h4) (by kernel_rfl)<|H0<|V0 rfl (rfl)<|O0<|H0<|L0<|M2 h4 h4 (fun s_ => ([] : List Nat).any (Nat.beq s_)) mixed (by kernel_rfl)<|fun hx =>fun w5 h5=>K3 hx 12 [3, 5] [0, 1, 2, 4, 3, 5] [1, 0] rfl<|R2 hx 6 (by rfl) (fun w_ => C1 underlying80 inf97 rfl rfl (n := m.st.toNat) hm0 (by omega)) rfl<|E3 12 hx 7 (by rfl) (fun w_ hE_ => L1 (u := .pointer (some ⟨bt, 0, none⟩)) (Y1 (none : Option Nat) hE_ 3 rfl (Z2 (E := 97) (f := pv) (b := bT) (fz := ft) (xs := ps) (zs := zt) rfl hO.ft) (n := m.st.toNat) (by omega) underlying97 rfl rfl) (by rw [hp]; rfl)) rfl<|WE.e hx [8] rfl<|WE.fin (.inr h5) (by kernel_rfl)<|H0<|Wi<|WL.e 1 rfl<|Wh<|W0 h5 [0] 3 rfl<|Wa<|U0 rfl (fun c6 => ?_) (fun c6 => ?_)
  ·try simp only [DD] at c6
   refine K0<|W0 h5 [0, 0] 6 rfl<|H1 can87 rfl rfl (Tal.vote_c _ _ _ h5 (TR.at2 hTR (at6 hm1) (at6 hm2) (by omega))) ?_
   rintro _ w7 ⟨G9, lv9, hG9, rfl, h7, hTR9⟩
   refine ⟨_, rfl, ?_⟩
   have hta9 := (hO.mono hG9).ta.put (i := m.st.toNat) hi3 (TR.two hTR9)
   rw [set_same (d := none) (by omega) hp] at hta9
   replace h7 := put_vote h7 hmq2 (by omega)
   refine WL.e 1 rfl<|Wh<|WL.e 2 rfl<|Wa<|U0 rfl (fun c8 => ?_) (fun c8 => ?_)
   ·try simp only [DD] at c8
    refine Wi<|WL.e 1 rfl<|WL.nil (H0 (I1 ?_))
    replace h7 := h7.drop 0
    obtain ⟨r9, hJ9, hS9⟩ := JobR.close (x := x) (tm := ((tm.set (2 * m.st.toNat) [(mv, mobj lv9)]).set (2 * m.st.toNat + 1) [(mc, mobj lc)])) (show St W G9 (jB (x) b bC bT m1 m2 A B cap cap2 ps zc zt :: cB x.cs bC zc fc :: tB ps bT zt ft :: [(m1, mobj l1)] :: [(m2, mobj l2)] :: (((tm.set (2 * m.st.toNat) [(mv, mobj lv9)]).set (2 * m.st.toNat + 1) [(mc, mobj lc)]) ++ cs)) _ from h7) ⟨hO.nd.mono hG9, hO.st.mono hG9, hO.fc, hO.ft, (by rwa [show (t.vote m.f (decide (m.ar = 1))).2 = t from (says_v c6) ▸ says_no ((says_v c6) ▸ c8), set_same (d := none) hi3 hts] at hta9), hO.r1, hO.r2⟩
    refine ret1 rfl rfl ?_
    rw [said_c1 hA hts ((says_v c6) ▸ c8)]
    exact ⟨rfl, G9, r9, hG9, hJ9, hS9⟩
   ·try simp only [DD] at c8
    refine O0 (H0 (L0 ?_))
    have HEQ9 := says_v c6 (t := t)
    replace h7 := h7.drop 0
    obtain ⟨r9, hJ9, hS9⟩ := JobR.close (x := x.put m.st.toNat (t.vote m.f (decide (m.ar = 1))).2) (tm := ((tm.set (2 * m.st.toNat) [(mv, mobj lv9)]).set (2 * m.st.toNat + 1) [(mc, mobj lc)])) (show St W G9 (jB (x.put m.st.toNat (t.vote m.f (decide (m.ar = 1))).2) b bC bT m1 m2 A B cap cap2 ps zc zt :: cB x.cs bC zc fc :: tB ps bT zt ft :: [(m1, mobj l1)] :: [(m2, mobj l2)] :: (((tm.set (2 * m.st.toNat) [(mv, mobj lv9)]).set (2 * m.st.toNat + 1) [(mc, mobj lc)]) ++ cs)) _ from h7) ⟨hO.nd.mono hG9, hO.st.mono hG9, hO.fc, hO.ft, hta9, hO.r1, hO.r2⟩
    refine K0<|WL.e 1 rfl<|WL.cv can60 rfl rfl (look_c _ hS9 hJ9 (hok.put (i := m.st.toNat) (by rw [← HEQ9]; exact (hok.tk (hts ▸ getD_mem hi3)).says m))) fun w9 ⟨G8, r8, hle8, hJ8, h9⟩ =>We<|WL.e 1 rfl<|Wg<|ret1 rfl rfl ?_
    rw [said_d hA hts (by rw [says_v c6]; exact c8)]
    exact ⟨rfl, G8, r8, Le.trans hG9 hle8, (says_v c6) ▸ hJ8, h9⟩
  ·try simp only [DD] at c6
   refine K0<|W0 h5 [0, 0] 5 rfl<|H1 can88 rfl rfl (Tal.exit_c _ _ _ h5 (TR.at2 hTR (at6 hm1) (at6 hm2) (by omega))) ?_
   rintro _ w10 ⟨G9, lc9, hG9, rfl, h10, hTR9⟩
   refine ⟨_, rfl, ?_⟩
   have hta9 := (hO.mono hG9).ta.put (i := m.st.toNat) hi3 (TR.two hTR9)
   rw [set_same (d := none) (by omega) hp] at hta9
   replace h10 := put_exit h10 hmq1 (by omega)
   refine WL.e 1 rfl<|Wh<|WL.e 2 rfl<|Wa<|U0 rfl (fun c11 => ?_) (fun c11 => ?_)
   ·try simp only [DD] at c11
    refine Wi<|WL.e 1 rfl<|WL.nil (H0 (I1 ?_))
    replace h10 := h10.drop 0
    obtain ⟨r9, hJ9, hS9⟩ := JobR.close (x := x) (tm := ((tm.set (2 * m.st.toNat) [(mv, mobj lv)]).set (2 * m.st.toNat + 1) [(mc, mobj lc9)])) (show St W G9 (jB (x) b bC bT m1 m2 A B cap cap2 ps zc zt :: cB x.cs bC zc fc :: tB ps bT zt ft :: [(m1, mobj l1)] :: [(m2, mobj l2)] :: (((tm.set (2 * m.st.toNat) [(mv, mobj lv)]).set (2 * m.st.toNat + 1) [(mc, mobj lc9)]) ++ cs)) _ from h10) ⟨hO.nd.mono hG9, hO.st.mono hG9, hO.fc, hO.ft, (by rwa [show (t.exit m.f m.ar).2 = t from (says_e c6) ▸ says_no ((says_e c6) ▸ c11), set_same (d := none) hi3 hts] at hta9), hO.r1, hO.r2⟩
    refine ret1 rfl rfl ?_
    rw [said_c1 hA hts ((says_e c6) ▸ c11)]
    exact ⟨rfl, G9, r9, hG9, hJ9, hS9⟩
   ·try simp only [DD] at c11
    refine O0 (H0 (L0 ?_))
    have HEQ9 := says_e c6 (t := t)
    replace h10 := h10.drop 0
    obtain ⟨r9, hJ9, hS9⟩ := JobR.close (x := x.put m.st.toNat (t.exit m.f m.ar).2) (tm := ((tm.set (2 * m.st.toNat) [(mv, mobj lv)]).set (2 * m.st.toNat + 1) [(mc, mobj lc9)])) (show St W G9 (jB (x.put m.st.toNat (t.exit m.f m.ar).2) b bC bT m1 m2 A B cap cap2 ps zc zt :: cB x.cs bC zc fc :: tB ps bT zt ft :: [(m1, mobj l1)] :: [(m2, mobj l2)] :: (((tm.set (2 * m.st.toNat) [(mv, mobj lv)]).set (2 * m.st.toNat + 1) [(mc, mobj lc9)]) ++ cs)) _ from h10) ⟨hO.nd.mono hG9, hO.st.mono hG9, hO.fc, hO.ft, hta9, hO.r1, hO.r2⟩
    refine K0<|WL.e 1 rfl<|WL.cv can60 rfl rfl (look_c _ hS9 hJ9 (hok.put (i := m.st.toNat) (by rw [← HEQ9]; exact (hok.tk (hts ▸ getD_mem hi3)).says m))) fun w12 ⟨G8, r8, hle8, hJ8, h12⟩ =>We<|WL.e 1 rfl<|Wg<|ret1 rfl rfl ?_
    rw [said_d hA hts (by rw [says_e c6]; exact c11)]
    exact ⟨rfl, G8, r8, Le.trans hG9 hle8, (says_e c6) ▸ hJ8, h12⟩
theorem inf76 : Inf prog 76 (.pointer none) 1 8 := by unfold Inf; kernel_rfl
def pj (b : Nat) : Value := .pointer (some ⟨b, 0, none⟩)
structure CtlO (F : Snap) (js : List J) (qs : List Nat) (rj : List Res) : Prop where
 lq : qs.length = js.length
 lr : rj.length = js.length
 at_ : ∀ i x, js[i]? = some x → ∃ r, rj[i]? = some r ∧ JobR F r (qs.getD i 0) x
theorem CtlO.mono {F G : Snap} (hle : Le F G) {js : List J} {qs : List Nat} {rj : List Res} (h : CtlO F js qs rj) : CtlO G js qs rj := ⟨h.lq, h.lr, fun i x hx => by
 obtain ⟨r, h1, h2⟩ := h.at_ i x hx
 exact ⟨r, h1, h2.mono hle⟩⟩
theorem CtlO.set {F : Snap} {js : List J} {qs : List Nat} {rj : List Res} (h : CtlO F js qs rj) {k : Nat} {x : J} {r : Res} (hk : k < js.length) (hJ : JobR F r (qs.getD k 0) x) : CtlO F (js.set k x) qs (rj.set k r) := by
 have hlr := h.lr
 refine ⟨by rw [List.length_set]; exact h.lq, by rw [List.length_set, List.length_set]; exact h.lr, fun i y hy => ?_⟩
 by_cases e : k = i
 ·subst e
  rw [List.getElem?_set_self hk] at hy
  obtain rfl := Option.some.inj hy
  exact ⟨r, by rw [List.getElem?_set_self (by omega)], hJ⟩
 ·rw [List.getElem?_set_ne e] at hy
  obtain ⟨q, h1, h2⟩ := h.at_ i y hy
  exact ⟨q, by rw [List.getElem?_set_ne e]; exact h1, h2⟩
abbrev kB (b : Nat) (key : List UInt8) (A : Option Addr) (n cap : Nat) : Res := [(b, .cells #[.string (bs key), .slice A n cap] 75 (0, 0))]
def CtlR (F : Snap) (r : Res) (b : Nat) (key : List UInt8) (js : List J) : Prop := ∃ A cap rP qs rj, r = (kB b key A qs.length cap :: rP :: rj).flatten ∧ Row 76 pj rP (.slice A qs.length cap) qs ∧ CtlO F js qs rj
theorem CtlR.mono {F G : Snap} (hle : Le F G) {r : Res} {b : Nat} {key : List UInt8} {js : List J} (h : CtlR F r b key js) : CtlR G r b key js := by
 obtain ⟨A, cap, rP, qs, rj, h1, h2, h3⟩ := h
 exact ⟨A, cap, rP, qs, rj, h1, h2, h3.mono hle⟩
theorem CtlR.open_ {W w : World} {F : Snap} {cs : List Res} {r : Res} {b : Nat} {key : List UInt8} {js : List J} (h : St W F (r :: cs) w) (hC : CtlR F r b key js) : ∃ A cap rP qs rj, St W F (kB b key A qs.length cap :: rP :: (rj ++ cs)) w ∧ Row 76 pj rP (.slice A qs.length cap) qs ∧ CtlO F js qs rj := by
 obtain ⟨A, cap, rP, qs, rj, rfl, h2, h3⟩ := hC
 exact ⟨A, cap, rP, qs, rj, St.flat h (by simp), h2, h3⟩
theorem CtlR.close {W w : World} {F : Snap} {cs rj : List Res} {b cap : Nat} {key : List UInt8} {A : Option Addr} {rP : Res} {qs : List Nat} {js : List J} (h : St W F (kB b key A qs.length cap :: rP :: (rj ++ cs)) w) (hr : Row 76 pj rP (.slice A qs.length cap) qs) (hO : CtlO F js qs rj) : ∃ r, CtlR F r b key js ∧ St W F (r :: cs) w :=
 ⟨_, ⟨A, cap, rP, qs, rj, rfl, hr, hO⟩, St.flat h (by simp)⟩
theorem take2 {W w : World} {F : Snap} {cs rj : List Res} {a p r : Res} {k : Nat} (h : St W F (a :: p :: (rj ++ cs)) w) (hk : rj[k]? = some r) : St W F (r :: a :: p :: (rj.set k [] ++ cs)) w := by
 have hl : k < rj.length := (List.getElem?_eq_some_iff.1 hk).1
 have := St.out h (i := k + 2) (show (rj ++ cs)[k]? = some r by rw [List.getElem?_append_left hl]; exact hk)
 have e : (a :: p :: (rj ++ cs)).set (k + 2) [] = a :: p :: (rj.set k [] ++ cs) := by
  simp only [List.set_cons_succ]
  rw [List.set_append_left _ _ hl]
 rwa [e] at this
theorem give2 {W w : World} {F : Snap} {cs rj : List Res} {a p r : Res} {k : Nat} (h : St W F (r :: a :: p :: (rj.set k [] ++ cs)) w) (hl : k < rj.length) : St W F (a :: p :: (rj.set k r ++ cs)) w := by
 have := St.in_ h (i := k + 2) (show (rj.set k [] ++ cs)[k]? = some [] by rw [List.getElem?_append_left (by rw [List.length_set]; exact hl), List.getElem?_set_self hl])
 have e : (a :: p :: (rj.set k [] ++ cs)).set (k + 2) r = a :: p :: (rj.set k r ++ cs) := by
  simp only [List.set_cons_succ]
  rw [List.set_append_left _ _ (by rw [List.length_set]; exact hl), List.set_set]
 rwa [e] at this
theorem at_no {js : List J} {id : Int} (h : at_ js id = none) : id < 1 ∨ (1 ≤ id ∧ (js.length : Int) < id) := by
 unfold at_ at h
 split at h
 ·omega
 ·cases h
theorem at_yes {js : List J} {id : Int} {k : Nat} (h : at_ js id = some k) : 1 ≤ id ∧ id ≤ (js.length : Int) ∧ k = (id - 1).toNat ∧ k < js.length ∧ ∃ x, js[k]? = some x := by
 unfold at_ at h
 split at h
 ·cases h
 ·have hk := Option.some.inj h
  have hl : k < js.length := by omega
  exact ⟨by omega, by omega, hk.symm, hl, _, List.getElem?_eq_getElem hl⟩
theorem find_lo {cs : List Res} (w : World) {b cap : Nat} {key : List UInt8} {A : Option Addr} {rP : Res} {qs : List Nat} (id : Int) (h : St W F ([(b, .cells #[.string (bs key), .slice A qs.length cap] 75 (0, 0))] :: rP :: cs) w) (hr : Row 76 pj rP (.slice A qs.length cap) qs) (hq : qs.length ≤ 16) (hid : id < 1) : Calls prog 39 #[.pointer (some ⟨b, 0, none⟩), Vi id] w fun e w' => e = .returned (.pointer none) ∧ St W F ([(b, .cells #[.string (bs key), .slice A qs.length cap] 75 (0, 0))] :: rP :: cs) w'  := by
 refine enter (args := [.pointer (some ⟨b, 0, none⟩), Vi id]) func39 rfl rfl rfl<|Wi<|WL.e 1 rfl<|Wh<|WL.e 1 rfl<|C0 (Bf (V1 underlying25 rfl rfl) rfl) rfl<|WL.e 2 rfl<|WL.gn rfl<|C0 (Bt (N1 rfl rfl) (decide_eq_true hid)) rfl<|WL.e 10 rfl<|Wa<|B1 rfl (rfl)<|Wi<|WL.e 1 rfl<|Wg<|ret1 rfl rfl ⟨rfl, h⟩
theorem find_hi {cs : List Res} (w : World) {b cap : Nat} {key : List UInt8} {A : Option Addr} {rP : Res} {qs : List Nat} (id : Int) (h : St W F ([(b, .cells #[.string (bs key), .slice A qs.length cap] 75 (0, 0))] :: rP :: cs) w) (hr : Row 76 pj rP (.slice A qs.length cap) qs) (hq : qs.length ≤ 16) (hid : ¬ id < 1) (hid2 : (qs.length : Int) < id) : Calls prog 39 #[.pointer (some ⟨b, 0, none⟩), Vi id] w fun e w' => e = .returned (.pointer none) ∧ St W F ([(b, .cells #[.string (bs key), .slice A qs.length cap] 75 (0, 0))] :: rP :: cs) w'  := by
 refine enter (args := [.pointer (some ⟨b, 0, none⟩), Vi id]) func39 rfl rfl rfl<|Wi<|WL.e 1 rfl<|Wh<|WL.e 1 rfl<|C0 (Bf (V1 underlying25 rfl rfl) rfl) rfl<|WL.e 2 rfl<|WL.gn rfl<|C0 (Bf (N1 rfl rfl) (decide_eq_false hid)) rfl<|W0 h [0] 7 rfl<|WL.gn rfl<|C0 (N0 (n := (qs.length : Int)) (R0 underlying73 rfl rfl) rfl) rfl<|WL.gn rfl<|C0 (Bt (X1 rfl rfl) (decide_eq_true hid2)) rfl<|WL.e 1 rfl<|Wa<|B1 rfl (rfl)<|Wi<|WL.e 1 rfl<|Wg<|ret1 rfl rfl ⟨rfl, h⟩
theorem find_at {cs : List Res} (w : World) {b cap : Nat} {key : List UInt8} {A : Option Addr} {rP : Res} {qs : List Nat} (id : Int) (h : St W F ([(b, .cells #[.string (bs key), .slice A qs.length cap] 75 (0, 0))] :: rP :: cs) w) (hr : Row 76 pj rP (.slice A qs.length cap) qs) (hq : qs.length ≤ 16) (hid : ¬ id < 1) (hid2 : ¬ (qs.length : Int) < id) : Calls prog 39 #[.pointer (some ⟨b, 0, none⟩), Vi id] w fun e w' => e = .returned (.pointer (some ⟨qs.getD (id - 1).toNat 0, 0, none⟩)) ∧ St W F ([(b, .cells #[.string (bs key), .slice A qs.length cap] 75 (0, 0))] :: rP :: cs) w'  := by
 refine enter (args := [.pointer (some ⟨b, 0, none⟩), Vi id]) func39 rfl rfl rfl<|Wi<|WL.e 1 rfl<|Wh<|WL.e 1 rfl<|C0 (Bf (V1 underlying25 rfl rfl) rfl) rfl<|WL.e 2 rfl<|WL.gn rfl<|C0 (Bf (N1 rfl rfl) (decide_eq_false hid)) rfl<|W0 h [0] 7 rfl<|WL.gn rfl<|C0 (N0 (n := (qs.length : Int)) (R0 underlying73 rfl rfl) rfl) rfl<|WL.gn rfl<|C0 (Bf (X1 rfl rfl) (decide_eq_false hid2)) rfl<|WL.e 1 rfl<|Wa<|V0 rfl (rfl)<|O0 (H0 (L0 ?_))
 obtain ⟨ad, rfl⟩ := Row.some hr (by omega)
 refine K0<|W0 h [0] 5 rfl<|C0 (W2 rfl rfl (by omega)) rfl<|C0 (C1 underlying73 inf76 rfl rfl (n := (id - 1).toNat) (by omega) (by omega)) rfl<|C0 (L1 (u := .pointer (some ⟨qs.getD (id - 1).toNat 0, 0, none⟩)) (Y1 (0 : Nat) h 1 rfl hr (n := (id - 1).toNat) (by omega) underlying76 rfl rfl) rfl) rfl<|WL.e 1 rfl<|Wg<|ret1 rfl rfl ⟨rfl, h⟩
theorem find_no {cs : List Res} (w : World) {b cap : Nat} {key : List UInt8} {A : Option Addr} {rP : Res} {qs : List Nat} (id : Int) (h : St W F ([(b, .cells #[.string (bs key), .slice A qs.length cap] 75 (0, 0))] :: rP :: cs) w) (hr : Row 76 pj rP (.slice A qs.length cap) qs) (hq : qs.length ≤ 16) {js : List J} (hl : qs.length = js.length) (hat : at_ js id = none) : Calls prog 39 #[.pointer (some ⟨b, 0, none⟩), Vi id] w fun e w' => e = .returned (.pointer none) ∧ St W F ([(b, .cells #[.string (bs key), .slice A qs.length cap] 75 (0, 0))] :: rP :: cs) w' := by
 rcases at_no hat with h1 | ⟨h1, h2⟩
 ·exact find_lo w id h hr hq h1
 ·exact find_hi w id h hr hq (by omega) (by omega)
theorem find_ye {cs : List Res} (w : World) {b cap : Nat} {key : List UInt8} {A : Option Addr} {rP : Res} {qs : List Nat} (id : Int) (h : St W F ([(b, .cells #[.string (bs key), .slice A qs.length cap] 75 (0, 0))] :: rP :: cs) w) (hr : Row 76 pj rP (.slice A qs.length cap) qs) (hq : qs.length ≤ 16) {js : List J} {k : Nat} (hl : qs.length = js.length) (hat : at_ js id = some k) : Calls prog 39 #[.pointer (some ⟨b, 0, none⟩), Vi id] w fun e w' => e = .returned (.pointer (some ⟨qs.getD k 0, 0, none⟩)) ∧ St W F ([(b, .cells #[.string (bs key), .slice A qs.length cap] 75 (0, 0))] :: rP :: cs) w' := by
 obtain ⟨h1, h2, rfl, _⟩ := at_yes hat
 exact find_at w id h hr hq (by omega) (by omega)
theorem inf4 : Inf prog 4 (.bool false) 1 1 := by unfold Inf; kernel_rfl
theorem inf42 : Inf prog 42 (.agg #[.int .i64 0, .int .i64 0, .int .i64 0, .int .i64 0, .int .i64 0, .int .i64 0, .int .i64 0, .string ⟨#[]⟩]) 8 72 := by unfold Inf; kernel_rfl
theorem fld42_2 : fldB prog 42 2 2 = true := by kernel_rfl
theorem fld42_3 : fldB prog 42 3 3 = true := by kernel_rfl
theorem fld42_4 : fldB prog 42 4 4 = true := by kernel_rfl
theorem can38 : B.Can prog 38 := ⟨_, func38, by kernel_rfl, rfl⟩
theorem can39 : B.Can prog 39 := ⟨_, func39, by kernel_rfl, rfl⟩
theorem can40 : B.Can prog 40 := ⟨_, func40, by kernel_rfl, rfl⟩
theorem can41 : B.Can prog 41 := ⟨_, func41, by kernel_rfl, rfl⟩
theorem can42 : B.Can prog 42 := ⟨_, func42, by kernel_rfl, rfl⟩
theorem can43 : B.Can prog 43 := ⟨_, func43, by kernel_rfl, rfl⟩
theorem can_no {js : List J} {id : Int} (h : at_ js id = none) : canM js id = (1, js) := by
 unfold canM
 rw [h]
theorem can_hi {js : List J} {id : Int} {k : Nat} {x : J} (h : at_ js id = some k) (hx : js[k]? = some x) (hp : 2 ≤ x.ph) : canM js id = (14, js) := by
 unfold canM
 rw [h]
 simp only [hx]
 exact if_pos hp
theorem can_ok {js : List J} {id : Int} {k : Nat} {x : J} (h : at_ js id = some k) (hx : js[k]? = some x) (hp : ¬ 2 ≤ x.ph) : canM js id = (0, js.set k x.cancel) := by
 unfold canM
 rw [h]
 simp only [hx]
 exact if_neg hp
theorem hear_a {x : J} {m : M} (h : m.k = 1) (h2 : x.ph = 0) : x.hear m = (true, x.started m.f m.ar) := if_pos ⟨h, h2⟩
theorem hear_b {x : J} {m : M} (h : ¬ (m.k = 1 ∧ x.ph = 0)) (h2 : (m.k = 3 ∨ m.k = 6) ∧ x.ph = 1) : x.hear m = x.said m := (if_neg h).trans (if_pos h2)
theorem hear_c {x : J} {m : M} (h : ¬ (m.k = 1 ∧ x.ph = 0)) (h2 : ¬ ((m.k = 3 ∨ m.k = 6) ∧ x.ph = 1)) (h3 : m.k = 9 ∧ x.ph = 2) : x.hear m = (true, x.left m.f) := (if_neg h).trans ((if_neg h2).trans (if_pos h3))
theorem hear_d {x : J} {m : M} (h : ¬ (m.k = 1 ∧ x.ph = 0)) (h2 : ¬ ((m.k = 3 ∨ m.k = 6) ∧ x.ph = 1)) (h3 : ¬ (m.k = 9 ∧ x.ph = 2)) : x.hear m = (false, x) := (if_neg h).trans ((if_neg h2).trans (if_neg h3))
theorem del_e {js : List J} {l : List UInt8} {m : M} {ec : Int} (h : decB l = (m, ec)) (he : ¬ ec = 0) : delM js l = (false, js) := by
 unfold delM
 rw [h]
 exact if_pos he
theorem del_no {js : List J} {l : List UInt8} {m : M} {ec : Int} (h : decB l = (m, ec)) (he : ec = 0) (hat : at_ js m.j = none) : delM js l = (false, js) := by
 unfold delM
 rw [h]
 simp only [hat, he]
 exact if_neg (by simp)
theorem del_mine {js : List J} {l : List UInt8} {m : M} {ec : Int} {k : Nat} {x : J} (h : decB l = (m, ec)) (he : ec = 0) (hat : at_ js m.j = some k) (hx : js[k]? = some x) (hm : ¬ x.mine m) : delM js l = (false, js) := by
 unfold delM
 rw [h]
 simp only [hat, he, hx]
 rw [if_neg (by simp), if_neg hm]
theorem del_y {js : List J} {l : List UInt8} {m : M} {ec : Int} {k : Nat} {x : J} (h : decB l = (m, ec)) (he : ec = 0) (hat : at_ js m.j = some k) (hx : js[k]? = some x) (hm : x.mine m) : delM js l = ((x.hear m).1, js.set k (x.hear m).2) := by
 unfold delM
 rw [h]
 simp only [hat, he, hx]
 rw [if_neg (by simp), if_pos hm]
theorem dec_may {l : List UInt8} (h : (decB l).2 = 0) : mayM (decB l).1 := by
 unfold Wir.decB at h ⊢
 split
 ·rename_i h1
  rw [if_pos h1] at h
  exact absurd h h1
 ·rename_i h1
  rw [if_neg h1] at h
  split
  ·assumption
  ·rename_i h2
   rw [if_neg h2] at h
   cases h
theorem dec_zero {l : List UInt8} (h : ¬ (decB l).2 = 0) : (decB l).1.j = 0 := by
 unfold Wir.decB at h ⊢
 split
 ·rfl
 ·rename_i h1
  rw [if_neg h1] at h
  split
  ·rename_i h2
   rw [if_pos h2] at h
   exact absurd rfl h
  ·rfl
theorem dec_m {cs : List Res} (w : World) (l : List UInt8) (h : St W F cs w) (hl : l.length ≤ 9223372036854775807) : Calls prog 38 #[.string (bs l)] w fun r w' => ∃ m ec, decB l = (m, ec) ∧ r = .returned (.tuple #[.agg #[Vi m.k, Vi m.f, Vi m.t, Vi m.j, Vi m.ep, Vi m.st, Vi m.ar, .string (bs m.tx)], Vi ec]) ∧ St W F cs w' := (Wir.dec_c w l h hl).mono fun r w' ⟨h1, h2⟩ => ⟨(decB l).1, (decB l).2, rfl, h1, h2⟩
theorem dl_cases {js : List J} {l : List UInt8} {m : M} {ec : Int} (h : decB l = (m, ec)) : (¬ ec = 0 ∧ at_ js m.j = none) ∨ (ec = 0 ∧ at_ js m.j = none) ∨ ∃ k, ec = 0 ∧ at_ js m.j = some k ∧ mayM m := by
 have e1 : (decB l).1 = m := by rw [h]
 have e2 : (decB l).2 = ec := by rw [h]
 by_cases he : ec = 0
 ·rcases hat : at_ js m.j with _ | k
  ·exact .inr (.inl ⟨he, rfl⟩)
  ·exact .inr (.inr ⟨k, he, rfl, e1 ▸ dec_may (e2.trans he)⟩)
 ·refine .inl ⟨he, ?_⟩
  rw [← e1, dec_zero (by rw [e2]; exact he)]
  rfl
theorem mine_cases (x : J) (m : M) : ¬ m.t = -1 ∨ (m.t = -1 ∧ ¬ m.ep = x.ep) ∨ (m.t = -1 ∧ m.ep = x.ep ∧ m.f ∉ x.ns) ∨ x.mine m := by
 by_cases h1 : m.t = -1
 ·by_cases h2 : m.ep = x.ep
  ·by_cases h3 : m.f ∈ x.ns
   ·exact .inr (.inr (.inr ⟨h1, h2, h3⟩))
   ·exact .inr (.inr (.inl ⟨h1, h2, h3⟩))
  ·exact .inr (.inl ⟨h1, h2⟩)
 ·exact .inl h1
theorem kcases (m : M) : (m.k = 1 ∧ ¬ m.k = 3 ∧ ¬ m.k = 6 ∧ ¬ m.k = 9) ∨ (¬ m.k = 1 ∧ m.k = 3 ∧ ¬ m.k = 9) ∨ (¬ m.k = 1 ∧ ¬ m.k = 3 ∧ m.k = 6 ∧ ¬ m.k = 9) ∨ (¬ m.k = 1 ∧ ¬ m.k = 3 ∧ ¬ m.k = 6 ∧ m.k = 9) ∨ (¬ m.k = 1 ∧ ¬ m.k = 3 ∧ ¬ m.k = 6 ∧ ¬ m.k = 9) := by omega
theorem new_c {cs : List Res} (w : World) (key : List UInt8) (h : St W F cs w) : Calls prog 12 #[.string (bs key)] w fun e w' => ∃ b r, e = .returned (.pointer (some ⟨b, 0, none⟩)) ∧ CtlR F r b key [] ∧ St W F (r :: cs) w'  := by
 refine enter (args := [.string (bs key)]) func12 rfl rfl rfl<|Wi<|WL.e 1 rfl<|We<|WL.e 1 rfl<|C0 (B2 (vs := [(0, .string (bs key))]) (cells := #[.string (bs key), .slice none 0 0]) rfl (by kernel_rfl)) rfl<|WL.box rfl h rfl fun b5 w1 h1=>WL.e 1 rfl<|WL.nil (H0 (I1 ?_))
 replace h1 : St W F (kB b5 key none 0 0 :: cs) w1 := h1
 obtain ⟨r7, hC7, hS7⟩ := CtlR.close (rj := []) (qs := []) (js := []) (rP := []) (A := none) (cap := 0) (b := b5) (key := key) (show St W F (kB b5 key none 0 0 :: [] :: ([] ++ cs)) _ from St.flat h1 (by simp)) (Row.nil 76 pj) ⟨rfl, rfl, fun i x hxk => by simp at hxk⟩
 exact ret1 rfl rfl ⟨b5, r7, rfl, hC7, hS7⟩
theorem jobs_c {cs : List Res} (w : World) {r : Res} {b : Nat} {key : List UInt8} {js : List J} (h : St W F (r :: cs) w) (hC : CtlR F r b key js)  : Calls prog 20 #[.pointer (some ⟨b, 0, none⟩)] w fun e w' => e = .returned (Vi js.length) ∧ ∃ r', CtlR F r' b key js ∧ St W F (r' :: cs) w'  := by
 refine enter (args := [.pointer (some ⟨b, 0, none⟩)]) func20 rfl rfl rfl ?_
 obtain ⟨A0, cap0, rP, qs, rj, h, hr, hK⟩ := CtlR.open_ h hC
 have hlq := hK.lq
 have hlr := hK.lr
 refine Wi<|WL.e 1 rfl<|Wh<|WL.e 1 rfl<|C0 (V1 underlying25 rfl rfl) rfl<|Wa<|V0 rfl (rfl)<|Wk<|W0 h [0] 4 rfl<|C0 (N0 (n := (js.length : Int)) (R0 underlying73 rfl rfl) (congrArg (fun n : Nat => (n : Int)) hlq)) rfl<|WL.e 1 rfl<|WL.nil (H0 (I1 ?_))
 obtain ⟨r7, hC7, hS7⟩ := CtlR.close h hr hK
 exact ret1 rfl rfl ⟨rfl, r7, hC7, hS7⟩
theorem cancel_c {cs : List Res} (w : World) {r : Res} {b : Nat} {key : List UInt8} {js : List J} (h : St W F (r :: cs) w) (hC : CtlR F r b key js) (hok : ∀ x ∈ js, x.ok) (hjl : js.length ≤ 16) (id : Int) : Calls prog 27 #[.pointer (some ⟨b, 0, none⟩), Vi id] w fun e w' => e = .returned (Vi (canM js id).1) ∧ ∃ G r', Le F G ∧ CtlR G r' b key ((canM js id).2) ∧ St W G (r' :: cs) w'  := by
 refine enter (args := [.pointer (some ⟨b, 0, none⟩), Vi id]) func27 rfl rfl rfl ?_
 obtain ⟨A0, cap0, rP, qs, rj, h, hr, hK⟩ := CtlR.open_ h hC
 have hlq := hK.lq
 have hlr := hK.lr
 refine Wi<|WL.e 1 rfl<|WL.nil (H0 (L0 ?_))
 rcases hat : at_ js id with _ | k
 ·skip
  refine K0<|WL.e 2 rfl<|WL.cv can39 rfl rfl (find_no _ (id) h hr (by omega) (js := js) hlq hat) fun w1 h1 =>WL.e 1 rfl<|Wb<|WC.block<|Wi<|WL.e 1 rfl<|C0 (V1 underlying76 rfl rfl) rfl<|WL.e 1 rfl<|Wa<|B1 rfl (rfl)<|Wi<|WL.e 1 rfl<|WL.nil (H0 (I1 ?_))
  obtain ⟨r7, hC7, hS7⟩ := CtlR.close h1 hr hK
  refine ret1 rfl rfl ?_
  rw [can_no hat]
  exact ⟨rfl, F, r7, Le.refl F, hC7, hS7⟩
 ·skip
  refine K0<|WL.e 2 rfl<|WL.cv can39 rfl rfl (find_ye _ (id) h hr (by omega) (js := js) hlq hat) fun w2 h2 => ?_
  obtain ⟨_, _, _, hkl, x, hxk⟩ := at_yes hat
  obtain ⟨rk, hrk, hJ⟩ := hK.at_ k x hxk
  have hokx := hok x (List.mem_of_getElem? hxk)
  replace h2 := take2 h2 hrk
  obtain ⟨bC, bT, m1, m2, A, B, cap, cap2, ps, zc, zt, fc, ft, l1, l2, tm, h2, hO⟩ := JobR.open_ h2 hJ
  refine WL.e 1 rfl<|Wb<|WC.block<|Wi<|WL.e 1 rfl<|C0 (V1 underlying76 rfl rfl) rfl<|WL.e 1 rfl<|Wa<|V0 rfl (rfl)<|Wi<|W0 h2 [0] 6 rfl<|Wa<|U0 rfl (fun c3 => ?_) (fun c3 => ?_)
  ·try simp only [DD] at c3
   refine Wi<|WL.e 1 rfl<|WL.nil (H0 (I1 ?_))
   obtain ⟨r9, hJ9, hS9⟩ := JobR.close (x := x) (show St W _ (jB (x) (qs.getD k 0) bC bT m1 m2 A B cap cap2 ps zc zt :: cB x.cs bC zc fc :: tB ps bT zt ft :: [(m1, mobj l1)] :: [(m2, mobj l2)] :: (tm ++ _)) _ from h2) ⟨hO.nd, hO.st, hO.fc, hO.ft, hO.ta, hO.r1, hO.r2⟩
   replace hS9 := give2 hS9 (by omega)
   obtain ⟨r7, hC7, hS7⟩ := CtlR.close hS9 hr ((hK.mono (Le.refl F)).set hkl hJ9)
   rw [set_same (d := x) hkl (by rw [List.getD_eq_getElem?_getD, hxk]; rfl)] at hC7
   refine ret1 rfl rfl ?_
   rw [can_hi hat hxk c3]
   exact ⟨rfl, F, r7, Le.refl F, hC7, hS7⟩
  ·try simp only [DD] at c3
   refine O0<|WN.blk<|H0<|Wi<|WL.e 3 rfl<|F1 h2 0 rfl rfl rfl inf4 rfl rfl (Free.zero _) (Nat.le_of_ble_eq_true rfl) ?_
   intro  w4 h4
   try simp only [ZZ] at h4
   refine Wh<|W0 h4 [0] 5 rfl<|Wa<|U0 rfl (fun c5 => ?_) (fun c5 => ?_)
   ·try simp only [DD] at c5
    obtain ⟨r9, hJ9, hS9⟩ := JobR.close (x := x.ask) (show St W _ (jB (x.ask) (qs.getD k 0) bC bT m1 m2 A B cap cap2 ps zc zt :: cB x.cs bC zc fc :: tB ps bT zt ft :: [(m1, mobj l1)] :: [(m2, mobj l2)] :: (tm ++ _)) _ from h4) ⟨hO.nd, hO.st, hO.fc, hO.ft, hO.ta, hO.r1, hO.r2⟩
    refine K0<|WL.e 1 rfl<|WL.cv can60 rfl rfl (look_c _ hS9 hJ9 hokx.ask) fun w6 ⟨G9, r8, hle9, hJ8, h6⟩ =>We<|WL.e 1 rfl<|WL.nil (H0 (I1 ?_))
    replace h6 := give2 h6 (by omega)
    obtain ⟨r7, hC7, hS7⟩ := CtlR.close h6 hr ((hK.mono hle9).set hkl hJ8)
    refine ret1 rfl rfl ?_
    rw [can_ok hat hxk (by omega), show x.cancel = x.ask.look from if_pos c5]
    exact ⟨rfl, G9, r7, hle9, hC7, hS7⟩
   ·try simp only [DD] at c5
    refine Wk<|WL.e 1 rfl<|WL.nil (H0 (I1 ?_))
    obtain ⟨r9, hJ9, hS9⟩ := JobR.close (x := x.ask) (show St W _ (jB (x.ask) (qs.getD k 0) bC bT m1 m2 A B cap cap2 ps zc zt :: cB x.cs bC zc fc :: tB ps bT zt ft :: [(m1, mobj l1)] :: [(m2, mobj l2)] :: (tm ++ _)) _ from h4) ⟨hO.nd, hO.st, hO.fc, hO.ft, hO.ta, hO.r1, hO.r2⟩
    replace hS9 := give2 hS9 (by omega)
    obtain ⟨r7, hC7, hS7⟩ := CtlR.close hS9 hr ((hK.mono (Le.refl F)).set hkl hJ9)
    refine ret1 rfl rfl ?_
    rw [can_ok hat hxk (by omega), show x.cancel = x.ask from if_neg c5]
    exact ⟨rfl, F, r7, Le.refl F, hC7, hS7⟩
theorem deliver_c {cs : List Res} (w : World) {r : Res} {b : Nat} {key : List UInt8} {js : List J} (h : St W F (r :: cs) w) (hC : CtlR F r b key js) (hok : ∀ x ∈ js, x.ok) (hjl : js.length ≤ 16) (l : List UInt8) (hl : l.length ≤ 9223372036854775807) : Calls prog 18 #[.pointer (some ⟨b, 0, none⟩), .string (bs l)] w fun e w' => e = .returned (.bool (delM js l).1) ∧ ∃ G r', Le F G ∧ CtlR G r' b key ((delM js l).2) ∧ St W G (r' :: cs) w'  := by
 refine enter (args := [.pointer (some ⟨b, 0, none⟩), .string (bs l)]) func18 rfl rfl rfl ?_
 obtain ⟨A0, cap0, rP, qs, rj, h, hr, hK⟩ := CtlR.open_ h hC
 have hlq := hK.lq
 have hlr := hK.lr
 refine Wi<|WL.e 1 rfl<|We<|WL.e 1 rfl<|H1 can38 rfl rfl (dec_m _ l h hl) ?_
 rintro _ w1 ⟨m, ec, hdec, rfl, h1⟩
 refine ⟨_, rfl,WL.e 3 rfl<|O1 rfl h1 inf42 fun b5 w2 h2=>M1 h2 0 rfl rfl rfl inf42 rfl rfl rfl (Free.zero _) ?_⟩
 intro  w3 h3
 try simp only [ZZ] at h3
 refine WL.e 1 rfl<|WL.nil (H0 (L0 ?_))
 obtain ⟨G0, hG0, hfr0, h3⟩ := h3.freeze (i := 0) rfl
 have hfz5 : G0 b5 = some (.cells #[Vi m.k, Vi m.f, Vi m.t, Vi m.j, Vi m.ep, Vi m.st, Vi m.ar, .string (bs m.tx)] 42 (0, 0)) := hfr0 _ List.mem_cons_self
 replace hK := hK.mono hG0
 rcases dl_cases (js := js) hdec with ⟨hec, hat⟩ | ⟨hec, hat⟩ | ⟨k, hec, hat, hmay⟩
 ·skip
  refine K0<|WL.e 2 rfl<|C0 (I0 underlying3 rfl rfl (h3.cell (cellB hfz5 rfl))) rfl<|WL.cv can39 rfl rfl (find_no _ (m.j) h3 hr (by omega) (js := js) hlq hat) fun w4 h4 =>WL.e 1 rfl<|Wb<|L0<|M2 h4 h4 (fun s_ => ([] : List Nat).any (Nat.beq s_)) mixed (by kernel_rfl)<|fun hx =>fun w5 h5=>WE.e hx [0] rfl<|R2 hx 1 (by rfl) (fun w_ => Bt (Z1 rfl rfl) (by rw [decide_eq_false hec]; rfl)) rfl<|WE.e hx [2, 3, 4, 5, 6, 7, 8, 9, 10, 11, 12, 13, 14, 15, 16, 17, 18, 19, 20, 21, 22, 23, 24, 25, 26, 27, 28, 29, 30] rfl<|WE.fin (.inr h5) (by kernel_rfl)<|H0<|B1 rfl (rfl)<|Wi<|WL.e 1 rfl<|WL.nil (H0 (I1 ?_))
  obtain ⟨r7, hC7, hS7⟩ := CtlR.close h5 hr hK
  refine ret1 rfl rfl ?_
  rw [del_e hdec hec]
  exact ⟨rfl, G0, r7, hG0, hC7, hS7⟩
 ·skip
  refine K0<|WL.e 2 rfl<|C0 (I0 underlying3 rfl rfl (h3.cell (cellB hfz5 rfl))) rfl<|WL.cv can39 rfl rfl (find_no _ (m.j) h3 hr (by omega) (js := js) hlq hat) fun w6 h6 =>WL.e 1 rfl<|Wb<|L0<|M2 h6 h6 (fun s_ => ([] : List Nat).any (Nat.beq s_)) mixed (by kernel_rfl)<|fun hx =>fun w7 h7=>WE.e hx [0] rfl<|R2 hx 1 (by rfl) (fun w_ => Bf (Z1 rfl rfl) (by rw [decide_eq_true hec]; rfl)) rfl<|WE.e hx [2, 3] rfl<|T2 (j := 2) (b := false) hx 4 (by rfl) ⟨_, _, rfl, rfl, rfl⟩ (fun w_ => Bt (V1 underlying76 rfl rfl) rfl) rfl<|WE.e hx [5, 6, 7, 8, 9, 10, 11, 12, 13, 14, 15, 16, 17, 18, 19, 20, 21, 22, 23, 24, 25, 26, 27, 28, 29, 30] rfl<|WE.fin (.inr h7) (by kernel_rfl)<|H0<|B1 rfl (rfl)<|Wi<|WL.e 1 rfl<|WL.nil (H0 (I1 ?_))
  obtain ⟨r7, hC7, hS7⟩ := CtlR.close h7 hr hK
  refine ret1 rfl rfl ?_
  rw [del_no hdec hec hat]
  exact ⟨rfl, G0, r7, hG0, hC7, hS7⟩
 ·skip
  refine K0<|WL.e 2 rfl<|C0 (I0 underlying3 rfl rfl (h3.cell (cellB hfz5 rfl))) rfl<|WL.cv can39 rfl rfl (find_ye _ (m.j) h3 hr (by omega) (js := js) hlq hat) fun w8 h8 => ?_
  obtain ⟨_, _, _, hkl, x, hxk⟩ := at_yes hat
  obtain ⟨rk, hrk, hJ⟩ := hK.at_ k x hxk
  have hokx := hok x (List.mem_of_getElem? hxk)
  replace h8 := take2 h8 hrk
  obtain ⟨bC, bT, m1, m2, A, B, cap, cap2, ps, zc, zt, fc, ft, l1, l2, tm, h8, hO⟩ := JobR.open_ h8 hJ
  refine WL.e 1 rfl<|WL.nil (H0 (L0 (L0 ?_)))
  have hns16 := Tal.oks_len hokx.ns.2
  rcases mine_cases x m with hb | ⟨hb0, hb⟩ | ⟨hb0, hb1, hb⟩ | hmine
  ·have hbad : ¬ x.mine m := fun hm => hb hm.1
   refine M2 h8 h8 (fun s_ => ([] : List Nat).any (Nat.beq s_)) mixed (by kernel_rfl)<|fun hx =>fun w9 h9=>WE.e hx [0] rfl<|R2 hx 1 (by rfl) (fun w_ => Bf (Z1 rfl rfl) (by rw [decide_eq_true hec]; rfl)) rfl<|WE.e hx [2, 3] rfl<|T2 (j := 2) (b := false) hx 4 (by rfl) ⟨_, _, rfl, rfl, rfl⟩ (fun w_ => Bf (V1 underlying76 rfl rfl) rfl) rfl<|WE.e hx [5, 6, 7] rfl<|B3 (j := 6) (b := false) 12 hx 8 (by rfl) ⟨_, _, rfl, rfl, rfl⟩ (fun w_ hE_ => I0 underlying3 rfl rfl (hE_.cell (cellB hfz5 rfl))) rfl<|T2 (j := 6) (b := false) hx 9 (by rfl) ⟨_, _, rfl, rfl, rfl⟩ (fun w_ => Bt (Z1 rfl rfl) (by rw [decide_eq_false hb]; rfl)) rfl<|WE.e hx [10, 11, 12, 13, 14, 15, 16, 17, 18, 19, 20, 21, 22, 23, 24, 25, 26, 27, 28, 29, 30] rfl<|WE.fin (.inr h9) (by kernel_rfl)<|H0<|B1 rfl (rfl)<|Wi<|WL.e 1 rfl<|WL.nil (H0 (I1 ?_))
   obtain ⟨r9, hJ9, hS9⟩ := JobR.close (x := x) (show St W _ (jB (x) (qs.getD k 0) bC bT m1 m2 A B cap cap2 ps zc zt :: cB x.cs bC zc fc :: tB ps bT zt ft :: [(m1, mobj l1)] :: [(m2, mobj l2)] :: (tm ++ _)) _ from h9) ⟨hO.nd, hO.st, hO.fc, hO.ft, hO.ta, hO.r1, hO.r2⟩
   replace hS9 := give2 hS9 (by omega)
   obtain ⟨r7, hC7, hS7⟩ := CtlR.close hS9 hr ((hK.mono (Le.refl G0)).set hkl hJ9)
   rw [set_same (d := x) hkl (by rw [List.getD_eq_getElem?_getD, hxk]; rfl)] at hC7
   refine ret1 rfl rfl ?_
   rw [del_mine hdec hec hat hxk hbad]
   exact ⟨rfl, G0, r7, hG0, hC7, hS7⟩
  ·have hbad : ¬ x.mine m := fun hm => hb hm.2.1
   refine M2 h8 h8 (fun s_ => ([] : List Nat).any (Nat.beq s_)) mixed (by kernel_rfl)<|fun hx =>fun w10 h10=>WE.e hx [0] rfl<|R2 hx 1 (by rfl) (fun w_ => Bf (Z1 rfl rfl) (by rw [decide_eq_true hec]; rfl)) rfl<|WE.e hx [2, 3] rfl<|T2 (j := 2) (b := false) hx 4 (by rfl) ⟨_, _, rfl, rfl, rfl⟩ (fun w_ => Bf (V1 underlying76 rfl rfl) rfl) rfl<|WE.e hx [5, 6, 7] rfl<|B3 (j := 6) (b := false) 12 hx 8 (by rfl) ⟨_, _, rfl, rfl, rfl⟩ (fun w_ hE_ => I0 underlying3 rfl rfl (hE_.cell (cellB hfz5 rfl))) rfl<|T2 (j := 6) (b := false) hx 9 (by rfl) ⟨_, _, rfl, rfl, rfl⟩ (fun w_ => Bf (Z1 rfl rfl) (by rw [decide_eq_true hb0]; rfl)) rfl<|WE.e hx [10, 11, 12, 14, 15, 16] rfl<|B3 (j := 11) (b := false) 12 hx 13 (by rfl) ⟨_, _, rfl, rfl, rfl⟩ (fun w_ hE_ => I0 underlying3 rfl rfl (hE_.cell (cellB hfz5 rfl))) rfl<|K3 hx 12 [17] [17] [0] rfl<|T2 (j := 11) (b := false) hx 18 (by rfl) ⟨_, _, rfl, rfl, rfl⟩ (fun w_ => Bt (Z1 rfl rfl) (by rw [decide_eq_false hb]; rfl)) rfl<|WE.e hx [19, 20, 21, 22, 23, 24, 25, 26, 27, 28, 29, 30] rfl<|WE.fin (.inr h10) (by kernel_rfl)<|H0<|B1 rfl (rfl)<|Wi<|WL.e 1 rfl<|WL.nil (H0 (I1 ?_))
   obtain ⟨r9, hJ9, hS9⟩ := JobR.close (x := x) (show St W _ (jB (x) (qs.getD k 0) bC bT m1 m2 A B cap cap2 ps zc zt :: cB x.cs bC zc fc :: tB ps bT zt ft :: [(m1, mobj l1)] :: [(m2, mobj l2)] :: (tm ++ _)) _ from h10) ⟨hO.nd, hO.st, hO.fc, hO.ft, hO.ta, hO.r1, hO.r2⟩
   replace hS9 := give2 hS9 (by omega)
   obtain ⟨r7, hC7, hS7⟩ := CtlR.close hS9 hr ((hK.mono (Le.refl G0)).set hkl hJ9)
   rw [set_same (d := x) hkl (by rw [List.getD_eq_getElem?_getD, hxk]; rfl)] at hC7
   refine ret1 rfl rfl ?_
   rw [del_mine hdec hec hat hxk hbad]
   exact ⟨rfl, G0, r7, hG0, hC7, hS7⟩
  ·have hbad : ¬ x.mine m := fun hm => hb hm.2.2
   refine M2 h8 h8 (fun s_ => ([] : List Nat).any (Nat.beq s_)) mixed (by kernel_rfl)<|fun hx =>fun w11 h11=>WE.e hx [0] rfl<|R2 hx 1 (by rfl) (fun w_ => Bf (Z1 rfl rfl) (by rw [decide_eq_true hec]; rfl)) rfl<|WE.e hx [2, 3] rfl<|T2 (j := 2) (b := false) hx 4 (by rfl) ⟨_, _, rfl, rfl, rfl⟩ (fun w_ => Bf (V1 underlying76 rfl rfl) rfl) rfl<|WE.e hx [5, 6, 7] rfl<|B3 (j := 6) (b := false) 12 hx 8 (by rfl) ⟨_, _, rfl, rfl, rfl⟩ (fun w_ hE_ => I0 underlying3 rfl rfl (hE_.cell (cellB hfz5 rfl))) rfl<|T2 (j := 6) (b := false) hx 9 (by rfl) ⟨_, _, rfl, rfl, rfl⟩ (fun w_ => Bf (Z1 rfl rfl) (by rw [decide_eq_true hb0]; rfl)) rfl<|WE.e hx [10, 11, 12, 14, 15, 16] rfl<|B3 (j := 11) (b := false) 12 hx 13 (by rfl) ⟨_, _, rfl, rfl, rfl⟩ (fun w_ hE_ => I0 underlying3 rfl rfl (hE_.cell (cellB hfz5 rfl))) rfl<|K3 hx 12 [17] [17] [0] rfl<|T2 (j := 11) (b := false) hx 18 (by rfl) ⟨_, _, rfl, rfl, rfl⟩ (fun w_ => Bf (Z1 rfl rfl) (by rw [decide_eq_true hb1]; rfl)) rfl<|K3 hx 12 [25] [19, 20, 21, 22, 23, 24, 26, 25] [0] rfl<|B3 (j := 20) (b := false) 12 hx 27 (by rfl) ⟨_, _, rfl, rfl, rfl⟩ (fun w_ hE_ => I0 underlying3 rfl rfl (hE_.cell (cellB hfz5 rfl))) rfl<|WE.op (.inr h11) (i := 28) (by rfl) (by kernel_rfl)<|WL.gn rfl<|WL.cv can40 rfl rfl (Dg.contains_c _ m.f h11 (RdW.of hO.nd) (by omega)) fun w12 h12 =>WL.nil<|U1<|T2 (j := 20) (b := false) hx 29 (by rfl) ⟨_, _, rfl, rfl, rfl⟩ (fun w_ => Bt (E1 rfl) (by rw [decide_eq_false hb]; rfl)) rfl<|WE.e hx [30] rfl<|WE.fin (.inr h12) (by kernel_rfl)<|H0<|B1 rfl (rfl)<|Wi<|WL.e 1 rfl<|WL.nil (H0 (I1 ?_))
   obtain ⟨r9, hJ9, hS9⟩ := JobR.close (x := x) (show St W _ (jB (x) (qs.getD k 0) bC bT m1 m2 A B cap cap2 ps zc zt :: cB x.cs bC zc fc :: tB ps bT zt ft :: [(m1, mobj l1)] :: [(m2, mobj l2)] :: (tm ++ _)) _ from h12) ⟨hO.nd, hO.st, hO.fc, hO.ft, hO.ta, hO.r1, hO.r2⟩
   replace hS9 := give2 hS9 (by omega)
   obtain ⟨r7, hC7, hS7⟩ := CtlR.close hS9 hr ((hK.mono (Le.refl G0)).set hkl hJ9)
   rw [set_same (d := x) hkl (by rw [List.getD_eq_getElem?_getD, hxk]; rfl)] at hC7
   refine ret1 rfl rfl ?_
   rw [del_mine hdec hec hat hxk hbad]
   exact ⟨rfl, G0, r7, hG0, hC7, hS7⟩
  ·skip
   refine M2 h8 h8 (fun s_ => ([] : List Nat).any (Nat.beq s_)) mixed (by kernel_rfl)<|fun hx =>fun w13 h13=>WE.e hx [0] rfl<|R2 hx 1 (by rfl) (fun w_ => Bf (Z1 rfl rfl) (by rw [decide_eq_true hec]; rfl)) rfl<|WE.e hx [2, 3] rfl<|T2 (j := 2) (b := false) hx 4 (by rfl) ⟨_, _, rfl, rfl, rfl⟩ (fun w_ => Bf (V1 underlying76 rfl rfl) rfl) rfl<|WE.e hx [5, 6, 7] rfl<|B3 (j := 6) (b := false) 12 hx 8 (by rfl) ⟨_, _, rfl, rfl, rfl⟩ (fun w_ hE_ => I0 underlying3 rfl rfl (hE_.cell (cellB hfz5 rfl))) rfl<|T2 (j := 6) (b := false) hx 9 (by rfl) ⟨_, _, rfl, rfl, rfl⟩ (fun w_ => Bf (Z1 rfl rfl) (by rw [decide_eq_true hmine.1]; rfl)) rfl<|WE.e hx [10, 11, 12, 14, 15, 16] rfl<|B3 (j := 11) (b := false) 12 hx 13 (by rfl) ⟨_, _, rfl, rfl, rfl⟩ (fun w_ hE_ => I0 underlying3 rfl rfl (hE_.cell (cellB hfz5 rfl))) rfl<|K3 hx 12 [17] [17] [0] rfl<|T2 (j := 11) (b := false) hx 18 (by rfl) ⟨_, _, rfl, rfl, rfl⟩ (fun w_ => Bf (Z1 rfl rfl) (by rw [decide_eq_true hmine.2.1]; rfl)) rfl<|K3 hx 12 [25] [19, 20, 21, 22, 23, 24, 26, 25] [0] rfl<|B3 (j := 20) (b := false) 12 hx 27 (by rfl) ⟨_, _, rfl, rfl, rfl⟩ (fun w_ hE_ => I0 underlying3 rfl rfl (hE_.cell (cellB hfz5 rfl))) rfl<|WE.op (.inr h13) (i := 28) (by rfl) (by kernel_rfl)<|WL.gn rfl<|WL.cv can40 rfl rfl (Dg.contains_c _ m.f h13 (RdW.of hO.nd) (by omega)) fun w14 h14 =>WL.nil<|U1<|T2 (j := 20) (b := false) hx 29 (by rfl) ⟨_, _, rfl, rfl, rfl⟩ (fun w_ => Bf (E1 rfl) (by rw [decide_eq_true hmine.2.2]; rfl)) rfl<|WE.e hx [30] rfl<|WE.fin (.inr h14) (by kernel_rfl)<|H0<|V0 rfl (rfl)<|O0 (H0 (L0 (WC.block (L0 ?_))))
   rcases kcases m with ⟨hk1, hk3, hk6, hk9⟩ | ⟨hk1, hk3, hk9⟩ | ⟨hk1, hk3, hk6, hk9⟩ | ⟨hk1, hk3, hk6, hk9⟩ | ⟨hk1, hk3, hk6, hk9⟩
   ·have hk36 : ¬ (m.k = 3 ∨ m.k = 6) := by omega
    refine K0<|WL.e 1 rfl<|C0 (I0 underlying3 rfl rfl (h14.cell (cellB hfz5 rfl))) rfl<|C0 (Bt (Y0 rfl rfl) (decide_eq_true hk1)) rfl<|W0 h14 [0] 8 rfl<|Wa<|U0 rfl (fun c15 => ?_) (fun c15 => ?_)
    ·try simp only [DD] at c15
     obtain ⟨r9, hJ9, hS9⟩ := JobR.close (x := x) (show St W _ (jB (x) (qs.getD k 0) bC bT m1 m2 A B cap cap2 ps zc zt :: cB x.cs bC zc fc :: tB ps bT zt ft :: [(m1, mobj l1)] :: [(m2, mobj l2)] :: (tm ++ _)) _ from h14) ⟨hO.nd, hO.st, hO.fc, hO.ft, hO.ta, hO.r1, hO.r2⟩
     refine K0<|WL.e 2 rfl<|C0 (I0 underlying3 rfl rfl (hS9.cell (cellB hfz5 rfl))) rfl<|WL.e 1 rfl<|C0 (I0 underlying3 rfl rfl (hS9.cell (cellB hfz5 rfl))) rfl<|WL.cv can41 rfl rfl (started_c _ hS9 hJ9 m.f m.ar hokx hmine.2.2) fun w16 ⟨G9, r8, hle9, hJ8, h16⟩ =>WL.nil<|WN.blk<|H0<|Wi<|WL.e 1 rfl<|WL.nil (H0 (I1 ?_))
     replace h16 := give2 h16 (by omega)
     obtain ⟨r7, hC7, hS7⟩ := CtlR.close h16 hr ((hK.mono hle9).set hkl hJ8)
     refine ret1 rfl rfl ?_
     rw [del_y hdec hec hat hxk hmine, hear_a hk1 c15]
     exact ⟨rfl, G9, r7, Le.trans hG0 hle9, hC7, hS7⟩
    ·try simp only [DD] at c15
     refine Wi<|WL.e 1 rfl<|C0 (I0 underlying3 rfl rfl (h14.cell (cellB hfz5 rfl))) rfl<|C0 (Bf (Y0 rfl rfl) (decide_eq_false hk3)) rfl<|WL.e 2 rfl<|WL.gn rfl<|C0 (I0 underlying3 rfl rfl (h14.cell (cellB hfz5 rfl))) rfl<|WL.gn rfl<|C0 (Bf (Y0 rfl rfl) (decide_eq_false hk6)) rfl<|WL.e 9 rfl<|Wa<|V0 rfl (rfl)<|Wi<|WL.e 1 rfl<|C0 (I0 underlying3 rfl rfl (h14.cell (cellB hfz5 rfl))) rfl<|C0 (Bf (Y0 rfl rfl) (decide_eq_false hk9)) rfl<|WL.e 8 rfl<|Wa<|V0 rfl (rfl)<|Wi<|WL.e 1 rfl<|WL.nil (H0 (I1 ?_))
     obtain ⟨r9, hJ9, hS9⟩ := JobR.close (x := x) (show St W _ (jB (x) (qs.getD k 0) bC bT m1 m2 A B cap cap2 ps zc zt :: cB x.cs bC zc fc :: tB ps bT zt ft :: [(m1, mobj l1)] :: [(m2, mobj l2)] :: (tm ++ _)) _ from h14) ⟨hO.nd, hO.st, hO.fc, hO.ft, hO.ta, hO.r1, hO.r2⟩
     replace hS9 := give2 hS9 (by omega)
     obtain ⟨r7, hC7, hS7⟩ := CtlR.close hS9 hr ((hK.mono (Le.refl G0)).set hkl hJ9)
     rw [set_same (d := x) hkl (by rw [List.getD_eq_getElem?_getD, hxk]; rfl)] at hC7
     refine ret1 rfl rfl ?_
     rw [del_y hdec hec hat hxk hmine, hear_d (fun hh => c15 hh.2) (fun hh => hk36 hh.1) (fun hh => hk9 hh.1), set_same (d := x) hkl (by rw [List.getD_eq_getElem?_getD, hxk]; rfl)]
     exact ⟨rfl, G0, r7, hG0, hC7, hS7⟩
   ·have hk36 : m.k = 3 ∨ m.k = 6 := .inl hk3
    refine K0<|WL.e 1 rfl<|C0 (I0 underlying3 rfl rfl (h14.cell (cellB hfz5 rfl))) rfl<|C0 (Bf (Y0 rfl rfl) (decide_eq_false hk1)) rfl<|WL.e 8 rfl<|Wa<|V0 rfl (rfl)<|Wi<|WL.e 1 rfl<|C0 (I0 underlying3 rfl rfl (h14.cell (cellB hfz5 rfl))) rfl<|C0 (Bt (Y0 rfl rfl) (decide_eq_true hk3)) rfl<|W0 h14 [0] 13 rfl<|Wa<|U0 rfl (fun c17 => ?_) (fun c17 => ?_)
    ·try simp only [DD] at c17
     refine L0 ?_
     obtain ⟨r9, hJ9, hS9⟩ := JobR.close (x := x) (show St W _ (jB (x) (qs.getD k 0) bC bT m1 m2 A B cap cap2 ps zc zt :: cB x.cs bC zc fc :: tB ps bT zt ft :: [(m1, mobj l1)] :: [(m2, mobj l2)] :: (tm ++ _)) _ from h14) ⟨hO.nd, hO.st, hO.fc, hO.ft, hO.ta, hO.r1, hO.r2⟩
     refine K0<|WL.e 1 rfl<|C0 (V2 hS9 hfz5 underlying42 rfl inf42 rfl rfl) rfl<|WL.cv can42 rfl rfl (said_c _ hS9 hJ9 m hokx hmay.2.2.2.2.2.2.1.1) fun w18 ⟨G9, r8, hle9, hJ8, h18⟩ =>WL.e 1 rfl<|WL.nil (H0 (I1 ?_))
     replace h18 := give2 h18 (by omega)
     obtain ⟨r7, hC7, hS7⟩ := CtlR.close h18 hr ((hK.mono hle9).set hkl hJ8)
     refine ret1 rfl rfl ?_
     rw [del_y hdec hec hat hxk hmine, hear_b (fun hh => hk1 hh.1) ⟨hk36, c17⟩]
     exact ⟨rfl, G9, r7, Le.trans hG0 hle9, hC7, hS7⟩
    ·try simp only [DD] at c17
     refine Wi<|WL.e 1 rfl<|C0 (I0 underlying3 rfl rfl (h14.cell (cellB hfz5 rfl))) rfl<|C0 (Bf (Y0 rfl rfl) (decide_eq_false hk9)) rfl<|WL.e 8 rfl<|Wa<|V0 rfl (rfl)<|Wi<|WL.e 1 rfl<|WL.nil (H0 (I1 ?_))
     obtain ⟨r9, hJ9, hS9⟩ := JobR.close (x := x) (show St W _ (jB (x) (qs.getD k 0) bC bT m1 m2 A B cap cap2 ps zc zt :: cB x.cs bC zc fc :: tB ps bT zt ft :: [(m1, mobj l1)] :: [(m2, mobj l2)] :: (tm ++ _)) _ from h14) ⟨hO.nd, hO.st, hO.fc, hO.ft, hO.ta, hO.r1, hO.r2⟩
     replace hS9 := give2 hS9 (by omega)
     obtain ⟨r7, hC7, hS7⟩ := CtlR.close hS9 hr ((hK.mono (Le.refl G0)).set hkl hJ9)
     rw [set_same (d := x) hkl (by rw [List.getD_eq_getElem?_getD, hxk]; rfl)] at hC7
     refine ret1 rfl rfl ?_
     rw [del_y hdec hec hat hxk hmine, hear_d (fun hh => hk1 hh.1) (fun hh => c17 hh.2) (fun hh => hk9 hh.1), set_same (d := x) hkl (by rw [List.getD_eq_getElem?_getD, hxk]; rfl)]
     exact ⟨rfl, G0, r7, hG0, hC7, hS7⟩
   ·have hk36 : m.k = 3 ∨ m.k = 6 := .inr hk6
    refine K0<|WL.e 1 rfl<|C0 (I0 underlying3 rfl rfl (h14.cell (cellB hfz5 rfl))) rfl<|C0 (Bf (Y0 rfl rfl) (decide_eq_false hk1)) rfl<|WL.e 8 rfl<|Wa<|V0 rfl (rfl)<|Wi<|WL.e 1 rfl<|C0 (I0 underlying3 rfl rfl (h14.cell (cellB hfz5 rfl))) rfl<|C0 (Bf (Y0 rfl rfl) (decide_eq_false hk3)) rfl<|WL.e 2 rfl<|WL.gn rfl<|C0 (I0 underlying3 rfl rfl (h14.cell (cellB hfz5 rfl))) rfl<|WL.gn rfl<|C0 (Bt (Y0 rfl rfl) (decide_eq_true hk6)) rfl<|W0 h14 [0] 9 rfl<|Wa<|U0 rfl (fun c19 => ?_) (fun c19 => ?_)
    ·try simp only [DD] at c19
     refine L0 ?_
     obtain ⟨r9, hJ9, hS9⟩ := JobR.close (x := x) (show St W _ (jB (x) (qs.getD k 0) bC bT m1 m2 A B cap cap2 ps zc zt :: cB x.cs bC zc fc :: tB ps bT zt ft :: [(m1, mobj l1)] :: [(m2, mobj l2)] :: (tm ++ _)) _ from h14) ⟨hO.nd, hO.st, hO.fc, hO.ft, hO.ta, hO.r1, hO.r2⟩
     refine K0<|WL.e 1 rfl<|C0 (V2 hS9 hfz5 underlying42 rfl inf42 rfl rfl) rfl<|WL.cv can42 rfl rfl (said_c _ hS9 hJ9 m hokx hmay.2.2.2.2.2.2.1.1) fun w20 ⟨G9, r8, hle9, hJ8, h20⟩ =>WL.e 1 rfl<|WL.nil (H0 (I1 ?_))
     replace h20 := give2 h20 (by omega)
     obtain ⟨r7, hC7, hS7⟩ := CtlR.close h20 hr ((hK.mono hle9).set hkl hJ8)
     refine ret1 rfl rfl ?_
     rw [del_y hdec hec hat hxk hmine, hear_b (fun hh => hk1 hh.1) ⟨hk36, c19⟩]
     exact ⟨rfl, G9, r7, Le.trans hG0 hle9, hC7, hS7⟩
    ·try simp only [DD] at c19
     refine Wi<|WL.e 1 rfl<|C0 (I0 underlying3 rfl rfl (h14.cell (cellB hfz5 rfl))) rfl<|C0 (Bf (Y0 rfl rfl) (decide_eq_false hk9)) rfl<|WL.e 8 rfl<|Wa<|V0 rfl (rfl)<|Wi<|WL.e 1 rfl<|WL.nil (H0 (I1 ?_))
     obtain ⟨r9, hJ9, hS9⟩ := JobR.close (x := x) (show St W _ (jB (x) (qs.getD k 0) bC bT m1 m2 A B cap cap2 ps zc zt :: cB x.cs bC zc fc :: tB ps bT zt ft :: [(m1, mobj l1)] :: [(m2, mobj l2)] :: (tm ++ _)) _ from h14) ⟨hO.nd, hO.st, hO.fc, hO.ft, hO.ta, hO.r1, hO.r2⟩
     replace hS9 := give2 hS9 (by omega)
     obtain ⟨r7, hC7, hS7⟩ := CtlR.close hS9 hr ((hK.mono (Le.refl G0)).set hkl hJ9)
     rw [set_same (d := x) hkl (by rw [List.getD_eq_getElem?_getD, hxk]; rfl)] at hC7
     refine ret1 rfl rfl ?_
     rw [del_y hdec hec hat hxk hmine, hear_d (fun hh => hk1 hh.1) (fun hh => c19 hh.2) (fun hh => hk9 hh.1), set_same (d := x) hkl (by rw [List.getD_eq_getElem?_getD, hxk]; rfl)]
     exact ⟨rfl, G0, r7, hG0, hC7, hS7⟩
   ·have hk36 : ¬ (m.k = 3 ∨ m.k = 6) := by omega
    refine K0<|WL.e 1 rfl<|C0 (I0 underlying3 rfl rfl (h14.cell (cellB hfz5 rfl))) rfl<|C0 (Bf (Y0 rfl rfl) (decide_eq_false hk1)) rfl<|WL.e 8 rfl<|Wa<|V0 rfl (rfl)<|Wi<|WL.e 1 rfl<|C0 (I0 underlying3 rfl rfl (h14.cell (cellB hfz5 rfl))) rfl<|C0 (Bf (Y0 rfl rfl) (decide_eq_false hk3)) rfl<|WL.e 2 rfl<|WL.gn rfl<|C0 (I0 underlying3 rfl rfl (h14.cell (cellB hfz5 rfl))) rfl<|WL.gn rfl<|C0 (Bf (Y0 rfl rfl) (decide_eq_false hk6)) rfl<|WL.e 9 rfl<|Wa<|V0 rfl (rfl)<|Wi<|WL.e 1 rfl<|C0 (I0 underlying3 rfl rfl (h14.cell (cellB hfz5 rfl))) rfl<|C0 (Bt (Y0 rfl rfl) (decide_eq_true hk9)) rfl<|W0 h14 [0] 8 rfl<|Wa<|U0 rfl (fun c21 => ?_) (fun c21 => ?_)
    ·try simp only [DD] at c21
     obtain ⟨r9, hJ9, hS9⟩ := JobR.close (x := x) (show St W _ (jB (x) (qs.getD k 0) bC bT m1 m2 A B cap cap2 ps zc zt :: cB x.cs bC zc fc :: tB ps bT zt ft :: [(m1, mobj l1)] :: [(m2, mobj l2)] :: (tm ++ _)) _ from h14) ⟨hO.nd, hO.st, hO.fc, hO.ft, hO.ta, hO.r1, hO.r2⟩
     refine K0<|WL.e 2 rfl<|C0 (I0 underlying3 rfl rfl (hS9.cell (cellB hfz5 rfl))) rfl<|WL.cv can43 rfl rfl (left_c _ hS9 hJ9 m.f hokx) fun w22 ⟨G9, r8, hle9, hJ8, h22⟩ =>WL.nil<|WN.blk<|H0<|Wi<|WL.e 1 rfl<|WL.nil (H0 (I1 ?_))
     replace h22 := give2 h22 (by omega)
     obtain ⟨r7, hC7, hS7⟩ := CtlR.close h22 hr ((hK.mono hle9).set hkl hJ8)
     refine ret1 rfl rfl ?_
     rw [del_y hdec hec hat hxk hmine, hear_c (fun hh => hk1 hh.1) (fun hh => hk36 hh.1) ⟨hk9, c21⟩]
     exact ⟨rfl, G9, r7, Le.trans hG0 hle9, hC7, hS7⟩
    ·try simp only [DD] at c21
     refine Wi<|WL.e 1 rfl<|WL.nil (H0 (I1 ?_))
     obtain ⟨r9, hJ9, hS9⟩ := JobR.close (x := x) (show St W _ (jB (x) (qs.getD k 0) bC bT m1 m2 A B cap cap2 ps zc zt :: cB x.cs bC zc fc :: tB ps bT zt ft :: [(m1, mobj l1)] :: [(m2, mobj l2)] :: (tm ++ _)) _ from h14) ⟨hO.nd, hO.st, hO.fc, hO.ft, hO.ta, hO.r1, hO.r2⟩
     replace hS9 := give2 hS9 (by omega)
     obtain ⟨r7, hC7, hS7⟩ := CtlR.close hS9 hr ((hK.mono (Le.refl G0)).set hkl hJ9)
     rw [set_same (d := x) hkl (by rw [List.getD_eq_getElem?_getD, hxk]; rfl)] at hC7
     refine ret1 rfl rfl ?_
     rw [del_y hdec hec hat hxk hmine, hear_d (fun hh => hk1 hh.1) (fun hh => hk36 hh.1) (fun hh => c21 hh.2), set_same (d := x) hkl (by rw [List.getD_eq_getElem?_getD, hxk]; rfl)]
     exact ⟨rfl, G0, r7, hG0, hC7, hS7⟩
   ·have hk36 : ¬ (m.k = 3 ∨ m.k = 6) := by omega
    refine K0<|WL.e 1 rfl<|C0 (I0 underlying3 rfl rfl (h14.cell (cellB hfz5 rfl))) rfl<|C0 (Bf (Y0 rfl rfl) (decide_eq_false hk1)) rfl<|WL.e 8 rfl<|Wa<|V0 rfl (rfl)<|Wi<|WL.e 1 rfl<|C0 (I0 underlying3 rfl rfl (h14.cell (cellB hfz5 rfl))) rfl<|C0 (Bf (Y0 rfl rfl) (decide_eq_false hk3)) rfl<|WL.e 2 rfl<|WL.gn rfl<|C0 (I0 underlying3 rfl rfl (h14.cell (cellB hfz5 rfl))) rfl<|WL.gn rfl<|C0 (Bf (Y0 rfl rfl) (decide_eq_false hk6)) rfl<|WL.e 9 rfl<|Wa<|V0 rfl (rfl)<|Wi<|WL.e 1 rfl<|C0 (I0 underlying3 rfl rfl (h14.cell (cellB hfz5 rfl))) rfl<|C0 (Bf (Y0 rfl rfl) (decide_eq_false hk9)) rfl<|WL.e 8 rfl<|Wa<|V0 rfl (rfl)<|Wi<|WL.e 1 rfl<|WL.nil (H0 (I1 ?_))
    obtain ⟨r9, hJ9, hS9⟩ := JobR.close (x := x) (show St W _ (jB (x) (qs.getD k 0) bC bT m1 m2 A B cap cap2 ps zc zt :: cB x.cs bC zc fc :: tB ps bT zt ft :: [(m1, mobj l1)] :: [(m2, mobj l2)] :: (tm ++ _)) _ from h14) ⟨hO.nd, hO.st, hO.fc, hO.ft, hO.ta, hO.r1, hO.r2⟩
    replace hS9 := give2 hS9 (by omega)
    obtain ⟨r7, hC7, hS7⟩ := CtlR.close hS9 hr ((hK.mono (Le.refl G0)).set hkl hJ9)
    rw [set_same (d := x) hkl (by rw [List.getD_eq_getElem?_getD, hxk]; rfl)] at hC7
    refine ret1 rfl rfl ?_
    rw [del_y hdec hec hat hxk hmine, hear_d (fun hh => hk1 hh.1) (fun hh => hk36 hh.1) (fun hh => hk9 hh.1), set_same (d := x) hkl (by rw [List.getD_eq_getElem?_getD, hxk]; rfl)]
    exact ⟨rfl, G0, r7, hG0, hC7, hS7⟩
end Ct
end Go.Proofs.YtifdpllfbaogcaaGreat
