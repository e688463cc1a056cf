/- Walks of package sha: the digest. -/
import Derived.Test.YtbkfjedecepfoaaMBaseK
import Derived.Test.YtbkfjedecepfoaaMShaM
import Derived.Test.YtbkfjedecepfoaaProg
namespace Go.Proofs.Ytbkfjedecepfoaa
open Go Go.RowKit B
set_option linter.unusedVariables false
set_option linter.unusedSimpArgs false
namespace Sha
open ShaM (rotr Wd D8)

theorem mixed : Try.prog.follows .mixedOrders = true := by kernel_rfl
theorem inf95 : Inf Try.prog 95 (.agg #[.int .u32 0, .int .u32 0, .int .u32 0, .int .u32 0, .int .u32 0, .int .u32 0, .int .u32 0, .int .u32 0]) 8 32 := by unfold Inf; kernel_rfl
theorem inf104 : Inf Try.prog 104 (.agg (List.replicate 64 (.int .u32 0)).toArray) 64 256 := by unfold Inf; kernel_rfl
theorem arr_init : (Value.agg (List.replicate 64 (Value.int IntKind.u32 0)).toArray).cells = ((List.replicate 64 (0 : Wd)).map V32).toArray := rfl
theorem set_first {α : Type} (pre : List α) (z v : α) (n : Nat) (h : pre.length < n) : (pre ++ List.replicate (n - pre.length) z).set pre.length v = pre ++ [v] ++ List.replicate (n - (pre ++ [v]).length) z := by
  rw [List.set_append_right _ _ (Nat.le_refl _), Nat.sub_self, show n - pre.length = (n - (pre ++ [v]).length) + 1 by simp; omega, List.replicate_succ, List.set_cons_zero]
  simp
theorem getD_pre {α : Type} (pre : List α) (z d : α) (n j : Nat) (h : j < pre.length) : (pre ++ List.replicate (n - pre.length) z).getD j d = pre.getD j d := by
  rw [List.getD_eq_getElem?_getD, List.getD_eq_getElem?_getD, List.getElem?_append_left h]
theorem u64sub {P : Program} {sl : Sl} {w : World} {t T T' : TypeId} {x y : Operand} {m n : Int} (hx : evs sl x = some (.int .u64 m)) (hy : evs sl y = some (.int .u64 n)) (h : 0 ≤ m - n ∧ m - n ≤ 32) : Runs P sl (.binOp .sub T x y T') t w (.int .u64 (m - n)) := by
  have := Runs.sub (P := P) (t := t) (w := w) (T := T) (T' := T') hx hy
  have e : IntKind.u64.wrap (m - n) = m - n := by
    simp only [IntKind.wrap, IntKind.bits, IntKind.signed, Bool.false_and, Bool.false_eq_true, if_false]
    omega
  rwa [e] at this
theorem build_first (sl : Sl) (w : World) : Runs Try.prog sl (.build 95 #[(0, .const (.int .u32 1779033703)), (1, .const (.int .u32 3144134277)), (2, .const (.int .u32 1013904242)), (3, .const (.int .u32 2773480762)), (4, .const (.int .u32 1359893119)), (5, .const (.int .u32 2600822924)), (6, .const (.int .u32 528734635)), (7, .const (.int .u32 1541459225))]) 95 w (.agg (ShaM.first.list.map V32).toArray) := fun ρ hρ o ho _ => by
  have hc : ∀ v, ρ (.const v) = v := fun v => hρ (.const v) v rfl
  simp only [execOp, ho, hc, List.map_toArray, List.map_cons, List.map_nil]
  refine Eq.trans (b := Result.ok (Next.value (.agg (ShaM.first.list.map V32).toArray)) w) ?_ rfl
  kernel_rfl
theorem build_K (sl : Sl) (w : World) : Runs Try.prog sl (.build 104 #[(0, .const (.int .u32 1116352408)), (1, .const (.int .u32 1899447441)), (2, .const (.int .u32 3049323471)), (3, .const (.int .u32 3921009573)), (4, .const (.int .u32 961987163)), (5, .const (.int .u32 1508970993)), (6, .const (.int .u32 2453635748)), (7, .const (.int .u32 2870763221)), (8, .const (.int .u32 3624381080)), (9, .const (.int .u32 310598401)), (10, .const (.int .u32 607225278)), (11, .const (.int .u32 1426881987)), (12, .const (.int .u32 1925078388)), (13, .const (.int .u32 2162078206)), (14, .const (.int .u32 2614888103)), (15, .const (.int .u32 3248222580)), (16, .const (.int .u32 3835390401)), (17, .const (.int .u32 4022224774)), (18, .const (.int .u32 264347078)), (19, .const (.int .u32 604807628)), (20, .const (.int .u32 770255983)), (21, .const (.int .u32 1249150122)), (22, .const (.int .u32 1555081692)), (23, .const (.int .u32 1996064986)), (24, .const (.int .u32 2554220882)), (25, .const (.int .u32 2821834349)), (26, .const (.int .u32 2952996808)), (27, .const (.int .u32 3210313671)), (28, .const (.int .u32 3336571891)), (29, .const (.int .u32 3584528711)), (30, .const (.int .u32 113926993)), (31, .const (.int .u32 338241895)), (32, .const (.int .u32 666307205)), (33, .const (.int .u32 773529912)), (34, .const (.int .u32 1294757372)), (35, .const (.int .u32 1396182291)), (36, .const (.int .u32 1695183700)), (37, .const (.int .u32 1986661051)), (38, .const (.int .u32 2177026350)), (39, .const (.int .u32 2456956037)), (40, .const (.int .u32 2730485921)), (41, .const (.int .u32 2820302411)), (42, .const (.int .u32 3259730800)), (43, .const (.int .u32 3345764771)), (44, .const (.int .u32 3516065817)), (45, .const (.int .u32 3600352804)), (46, .const (.int .u32 4094571909)), (47, .const (.int .u32 275423344)), (48, .const (.int .u32 430227734)), (49, .const (.int .u32 506948616)), (50, .const (.int .u32 659060556)), (51, .const (.int .u32 883997877)), (52, .const (.int .u32 958139571)), (53, .const (.int .u32 1322822218)), (54, .const (.int .u32 1537002063)), (55, .const (.int .u32 1747873779)), (56, .const (.int .u32 1955562222)), (57, .const (.int .u32 2024104815)), (58, .const (.int .u32 2227730452)), (59, .const (.int .u32 2361852424)), (60, .const (.int .u32 2428436474)), (61, .const (.int .u32 2756734187)), (62, .const (.int .u32 3204031479)), (63, .const (.int .u32 3329325298))]) 104 w (.agg (ShaM.K.map V32).toArray) := fun ρ hρ o ho _ => by
  have hc : ∀ v, ρ (.const v) = v := fun v => hρ (.const v) v rfl
  simp only [execOp, ho, hc, List.map_toArray, List.map_cons, List.map_nil]
  refine Eq.trans (b := Result.ok (Next.value (.agg (ShaM.K.map V32).toArray)) w) ?_ rfl
  kernel_rfl
set_option maxRecDepth 100000 in
set_option maxHeartbeats 1000000 in
theorem rot_c (x : Wd) (n : Int) (w : World) (hn : 0 ≤ n ∧ n ≤ 32) : Calls Try.prog 75 #[V32 x, .int .u64 n] w fun e w' => e = .returned (V32 (rotr x n.toNat)) ∧ w' = w := by
  refine enter (P := Try.prog) (args := [V32 x, .int .u64 n]) Try.func75 rfl rfl rfl ?_
  refine WC.seq ?_
  refine WC.reg ?_
  refine WL.v (Runs.assign rfl) rfl ?_
  refine WL.nil ?_
  refine WN.thn ?_
  refine WC.seq ?_
  refine WC.reg ?_
  refine WL.v (Runs.move rfl) rfl ?_
  refine WL.v (Runs.move rfl) rfl ?_
  refine WL.v (Runs.shr32 rfl rfl (by omega)) rfl ?_
  refine WL.v (Runs.move rfl) rfl ?_
  refine WL.v (Runs.move rfl) rfl ?_
  refine WL.v (u64sub rfl rfl (by omega)) rfl ?_
  refine WL.v (Runs.shl32 rfl rfl (by omega)) rfl ?_
  refine WL.v (Runs.or32 rfl rfl) rfl ?_
  refine WL.v (Runs.assign rfl) rfl ?_
  refine WL.nil ?_
  refine WN.thn ?_
  refine WC.ret ?_
  refine ret1 rfl rfl ⟨?_, rfl⟩
  unfold rotr
  rw [show (32 - n).toNat = 32 - n.toNat by omega]
set_option maxRecDepth 100000 in
set_option maxHeartbeats 1000000 in
theorem first_c {W : World} {F : Snap} {cs : List Res} (w : World) (h : St W F cs w) : Calls Try.prog 68 #[] w fun e w' => e = .returned (.agg (ShaM.first.list.map V32).toArray) ∧ St W F cs w'  := by
  refine enter (P := Try.prog) (args := []) Try.func68 rfl rfl rfl ?_
  refine WC.seq ?_
  refine WC.reg ?_
  refine WL.alloc' rfl h inf95 ?_
  intro b0 w1 h1
  refine WL.nil ?_
  refine WN.thn ?_
  refine WC.seq ?_
  refine WC.reg ?_
  refine WL.v (build_first _ _) rfl ?_
  refine WL.storeAll h1 0 rfl rfl rfl inf95 rfl rfl rfl (Free.zero _) ?_
  intro  w2 h2
  try simp only [List.set_cons_zero, List.set_cons_succ, List.eraseIdx_cons_zero, List.eraseIdx_cons_succ] at h2
  refine WL.nil ?_
  refine WN.thn ?_
  refine WC.ret ?_
  exact retA rfl ⟨_, rfl, run_loadVarA (vs := ShaM.first.list.map V32) Try.underlying95 rfl inf95 rfl (fun j v hv => by rw [add_mk, Nat.zero_add]; exact h2.ocell (i := 0) rfl (by simpa using hv))⟩ ⟨rfl, h2.drop 0⟩
set_option maxRecDepth 100000 in
set_option maxHeartbeats 2000000 in
theorem constants_c {W : World} {F : Snap} {cs : List Res} (w : World) (h : St W F cs w) : Calls Try.prog 74 #[] w fun e w' => e = .returned (.agg (ShaM.K.map V32).toArray) ∧ St W F cs w'  := by
  refine enter (P := Try.prog) (args := []) Try.func74 rfl rfl rfl ?_
  refine WC.seq ?_
  refine WC.reg ?_
  refine WL.alloc' rfl h inf104 ?_
  intro b0 w1 h1
  refine WL.nil ?_
  refine WN.thn ?_
  refine WC.seq ?_
  refine WC.reg ?_
  refine WL.v (build_K _ _) rfl ?_
  refine WL.storeAll h1 0 rfl rfl rfl inf104 rfl rfl rfl (Free.zero _) ?_
  intro  w2 h2
  try simp only [List.set_cons_zero, List.set_cons_succ, List.eraseIdx_cons_zero, List.eraseIdx_cons_succ] at h2
  refine WL.nil ?_
  refine WN.thn ?_
  refine WC.ret ?_
  exact retA rfl ⟨_, rfl, run_loadVarA (vs := ShaM.K.map V32) Try.underlying104 rfl inf104 rfl (fun j v hv => by rw [add_mk, Nat.zero_add]; exact h2.ocell (i := 0) rfl (by simpa using hv))⟩ ⟨rfl, h2.drop 0⟩
end Sha
end Go.Proofs.Ytbkfjedecepfoaa
