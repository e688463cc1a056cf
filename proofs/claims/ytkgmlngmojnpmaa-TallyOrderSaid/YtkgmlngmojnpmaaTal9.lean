/- Walks of the reference of chapter 14: what it tells. -/
import Derived.Test.YtkgmlngmojnpmaaProg
import Derived.Test.YtkgmlngmojnpmaaTal8
import Derived.Test.YtkgmlngmojnpmaaTal6
namespace Go.Proofs.Ytkgmlngmojnpmaa
open Go Go.RowKit B
set_option linter.unusedVariables false
set_option linter.unusedSimpArgs false
namespace Tal

theorem can14 : B.Can Try.prog 14 := ⟨_, Try.func14, by kernel_rfl, rfl⟩   -- (*roundhouse/roundhouseref14.Tally).State
theorem can21 : B.Can Try.prog 21 := ⟨_, Try.func21, by kernel_rfl, rfl⟩   -- roundhouse/roundhouseref14.Worst
theorem can31 : B.Can Try.prog 31 := ⟨_, Try.func31, by kernel_rfl, rfl⟩   -- roundhouse/roundhouseref14.has
def eV : Option Bool → Int
  | none => 0
  | some true => 1
  | some false => 2
def eC (o : Option Int) : Int := o.getD (-1)
theorem eV_inj {a b : Option Bool} (h : eV a = eV b) : a = b := by
  rcases a with _ | _ | _ <;> rcases b with _ | _ | _ <;> first | rfl | (revert h; decide)
structure RZ (F : Snap) (b : Nat) (t : T) : Prop where
  s0 : ∃ A cap, cellF F ⟨b, 0, none⟩ = some (.slice A t.ns.length cap) ∧ RdS (Kd.one Vi) F A t.ns
  s1 : ∃ A cap, cellF F ⟨b, 1, none⟩ = some (.slice A (t.vs.map eV).length cap) ∧ RdS (Kd.one Vi) F A (t.vs.map eV)
  s2 : ∃ A cap, cellF F ⟨b, 2, none⟩ = some (.slice A (t.cs.map eC).length cap) ∧ RdS (Kd.one Vi) F A (t.cs.map eC)
  lv : t.vs.length = t.ns.length
  lc : t.cs.length = t.ns.length
  pos : 0 < t.ns.length
  small : t.ns.length ≤ 16
  nd : t.ns.Nodup
  ok : ∀ c, some c ∈ t.cs → 0 ≤ c
structure RR (F : Snap) (cs : List Res) (b i j bv bc : Nat) (zv zc : List Value) (fv fc : Nat × Nat) (t : T) : Prop where
  s0 : ∃ A cap, cellF F ⟨b, 0, none⟩ = some (.slice A t.ns.length cap) ∧ RdS (Kd.one Vi) F A t.ns
  s1 : cellF F ⟨b, 1, none⟩ = some (.slice (some ⟨bv, 0, none⟩) (t.vs.map eV).length ((t.vs.map eV).length + zv.length))
  s2 : cellF F ⟨b, 2, none⟩ = some (.slice (some ⟨bc, 0, none⟩) (t.cs.map eC).length ((t.cs.map eC).length + zc.length))
  iv : cs[i]? = some [(bv, .cells ((t.vs.map eV).map Vi ++ zv).toArray 3 fv)]
  ic : cs[j]? = some [(bc, .cells ((t.cs.map eC).map Vi ++ zc).toArray 3 fc)]
  hv : Free fv ((t.vs.map eV).length + zv.length)
  hc : Free fc ((t.cs.map eC).length + zc.length)
  lv : t.vs.length = t.ns.length
  lc : t.cs.length = t.ns.length
  pos : 0 < t.ns.length
  small : t.ns.length ≤ 16
  nd : t.ns.Nodup
  ok : ∀ c, some c ∈ t.cs → 0 ≤ c
  ne : i ≠ j
theorem erase_at {cs : List Res} {i j : Nat} {r : Res} (hne : i ≠ j) (h : cs[j]? = some r) : ∃ k : Nat, (cs.eraseIdx i)[k]? = some r := by
  by_cases hj : j < i
  · exact ⟨j, by rw [List.getElem?_eraseIdx, if_pos hj]; exact h⟩
  · exact ⟨j - 1, by rw [List.getElem?_eraseIdx, if_neg (by omega), show j - 1 + 1 = j by omega]; exact h⟩
theorem blk_read {G : Snap} {bb tt : Nat} {xs : List Int} {zs : List Value} {fz : Nat × Nat} (h : G bb = some (.cells (xs.map Vi ++ zs).toArray tt fz)) : RdS (Kd.one Vi) G (some ⟨bb, 0, none⟩) xs := by
  refine .inr ⟨_, rfl, fun i x hx => ⟨[Vi x], rfl, fun j v hv => ?_⟩⟩
  have hj : j = 0 := by
    rcases j with _ | j
    · rfl
    · simp at hv
  subst hj
  simp only [List.getElem?_cons_zero, Option.some.injEq] at hv
  subst hv
  show cellF G ((⟨bb, 0, none⟩ : Addr).add (i * 1 + 0)) = some (Vi x)
  rw [add_mk, Nat.mul_one, Nat.add_zero, Nat.zero_add]
  unfold cellF
  simp only [h]
  have hi : i < xs.length := (List.getElem?_eq_some_iff.1 hx).1
  simp [List.getElem?_append_left (show i < (xs.map Vi).length by simpa using hi), hx]
theorem RR.use {W w : World} {F : Snap} {cs : List Res} {b i j bv bc : Nat} {zv zc : List Value} {fv fc : Nat × Nat} {t : T} (h : St W F cs w) (hr : RR F cs b i j bv bc zv zc fv fc t) : ∃ G cs', Le F G ∧ RZ G b t ∧ St W G cs' w ∧ ∀ new w', St W G (new ++ cs') w' → St W F (new ++ cs) w' := by
  obtain ⟨G1, l1, g1, S1⟩ := h.freeze hr.iv
  obtain ⟨j', hj'⟩ := erase_at hr.ne hr.ic
  obtain ⟨G2, l2, g2, S2⟩ := S1.freeze hj'
  obtain ⟨A, cap, h1, h2⟩ := hr.s0
  have hle := Le.trans l1 l2
  refine ⟨G2, _, hle, ⟨⟨A, cap, cellF_le hle h1, h2.mono hle⟩, ⟨_, _, cellF_le hle hr.s1, blk_read (l2 _ _ (g1 _ List.mem_cons_self))⟩, ⟨_, _, cellF_le hle hr.s2, blk_read (g2 _ List.mem_cons_self)⟩, hr.lv, hr.lc, hr.pos, hr.small, hr.nd, hr.ok⟩, S2, fun new w' h' => ?_⟩
  exact h.thaw hr.iv g1 l1 (S1.thaw hj' g2 l2 h')
theorem RR.mono {F G : Snap} {cs : List Res} {b i j bv bc : Nat} {zv zc : List Value} {fv fc : Nat × Nat} {t : T} (hle : Le F G) (h : RR F cs b i j bv bc zv zc fv fc t) : RR G cs b i j bv bc zv zc fv fc t := by
  obtain ⟨⟨A, cap, h1, h2⟩, h3, h4, h5, h6, h7, h8, h9, h10, h11, h12, h13, h14, h15⟩ := h
  exact ⟨⟨A, cap, cellF_le hle h1, h2.mono hle⟩, cellF_le hle h3, cellF_le hle h4, h5, h6, h7, h8, h9, h10, h11, h12, h13, h14, h15⟩
theorem getD_set_map {α β : Type} (f : α → β) (l : List α) (k : Nat) (x : α) : (l.map f).set k (f x) = (l.set k x).map f := by rw [List.map_set]
theorem RR.vote {F : Snap} {cs : List Res} {b i j bv bc : Nat} {zv zc : List Value} {fv fc : Nat × Nat} {t : T} {vs' : List (Option Bool)} (h : RR F cs b i j bv bc zv zc fv fc t) (hl : vs'.length = t.vs.length) : RR F (cs.set i [(bv, .cells ((vs'.map eV).map Vi ++ zv).toArray 3 fv)]) b i j bv bc zv zc fv fc { t with vs := vs' } := by
  obtain ⟨h1, h3, h4, h5, h6, h7, h8, h9, h10, h11, h12, h13, h14, h15⟩ := h
  refine ⟨h1, ?_, h4, by rw [List.getElem?_set_self (List.getElem?_eq_some_iff.1 h5).1], by rw [List.getElem?_set_ne h15]; exact h6, ?_, h8, hl.trans h9, h10, h11, h12, h13, h14, h15⟩
  · simp only [List.length_map] at h3 ⊢; rw [hl]; exact h3
  · simp only [List.length_map] at h7 ⊢; rw [hl]; exact h7
theorem RR.exit {F : Snap} {cs : List Res} {b i j bv bc : Nat} {zv zc : List Value} {fv fc : Nat × Nat} {t : T} {cs' : List (Option Int)} (h : RR F cs b i j bv bc zv zc fv fc t) (hl : cs'.length = t.cs.length) (hok : ∀ c, some c ∈ cs' → 0 ≤ c) : RR F (cs.set j [(bc, .cells ((cs'.map eC).map Vi ++ zc).toArray 3 fc)]) b i j bv bc zv zc fv fc { t with cs := cs' } := by
  obtain ⟨h1, h3, h4, h5, h6, h7, h8, h9, h10, h11, h12, h13, h14, h15⟩ := h
  refine ⟨h1, h3, ?_, by rw [List.getElem?_set_ne (Ne.symm h15)]; exact h5, by rw [List.getElem?_set_self (List.getElem?_eq_some_iff.1 h6).1], h7, ?_, h9, hl.trans h10, h11, h12, h13, hok, h15⟩
  · simp only [List.length_map] at h4 ⊢; rw [hl]; exact h4
  · simp only [List.length_map] at h8 ⊢; rw [hl]; exact h8
def isAt (ns : List Int) (n v : Int) : Prop := (v = -1 ∧ n ∉ ns) ∨ ∃ k : Nat, v = (k : Int) ∧ k < ns.length ∧ ns.getD k 0 = n
theorem not_in {xs : List Int} {x : Int} (h : ∀ k, k < xs.length → xs.getD k 0 ≠ x) : x ∉ xs := fun hm => by
  obtain ⟨k, hk, e⟩ := List.getElem_of_mem hm
  exact h k hk (by rw [List.getD_eq_getElem?_getD, List.getElem?_eq_getElem hk]; exact e)
theorem miss_pos {α : Type} : ∀ {ns : List Int} {os : List (Option α)}, os.length = ns.length → (0 < (miss ns os).length ↔ none ∈ os)
  | [], [], _ => by simp [miss]
  | n :: ns, o :: os, hl => by
    unfold miss
    have := miss_pos (ns := ns) (os := os) (by simpa using hl)
    cases o <;> simp [this]
theorem in_eV {os : List (Option Bool)} {o : Option Bool} : eV o ∈ os.map eV ↔ o ∈ os := by
  rw [List.mem_map]
  exact ⟨fun ⟨a, ha, e⟩ => eV_inj e ▸ ha, fun h => ⟨o, h, rfl⟩⟩
theorem in_eC {os : List (Option Int)} (hok : ∀ c, some c ∈ os → 0 ≤ c) : (-1 : Int) ∈ os.map eC ↔ none ∈ os := by
  rw [List.mem_map]
  refine ⟨fun ⟨a, ha, e⟩ => ?_, fun h => ⟨none, h, rfl⟩⟩
  cases a with
  | none => exact ha
  | some c => have := hok c ha; simp only [eC, Option.getD_some] at e; omega
theorem state_eq {F : Snap} {b : Nat} {t : T} (h : RZ F b t) : t.state = if 2 ∈ t.vs.map eV then 2 else if 0 ∈ t.vs.map eV then 0 else if -1 ∈ t.cs.map eC then 1 else 3 := by
  have e1 : ((2 : Int) ∈ t.vs.map eV) = (some false ∈ t.vs) := propext (in_eV (o := some false))
  have e2 : ((0 : Int) ∈ t.vs.map eV) = (none ∈ t.vs) := propext (in_eV (o := none))
  have e3 : ((-1 : Int) ∈ t.cs.map eC) = (none ∈ t.cs) := propext (in_eC h.ok)
  have e4 : ((miss t.ns t.vs).length > 0) = (none ∈ t.vs) := propext (miss_pos h.lv)
  have e5 : ((miss t.ns t.cs).length > 0) = (none ∈ t.cs) := propext (miss_pos h.lc)
  unfold T.state
  simp only [e1, e2, e3, e4, e5]
theorem worst_step (xs : List Int) (i : Nat) (hi : i < xs.length) : worst (xs.take (i + 1)) = if i = 0 ∨ worst (xs.take i) < xs.getD i 0 then xs.getD i 0 else worst (xs.take i) := by
  cases xs with
  | nil => simp at hi
  | cons a l =>
    cases i with
    | zero => simp [worst]
    | succ i =>
      show (l.take (i + 1)).foldl max a = _
      rw [max_step l i a (by simpa using hi)]
      simp [worst]
theorem code_eq {F : Snap} {b : Nat} {t : T} (h : RZ F b t) (h3 : t.state = 3) : t.code = worst (t.cs.map eC) := by
  have hall := codes_all h.lc h3
  unfold T.code
  rw [if_neg (by simp [h3])]
  congr 1
  refine List.map_congr_left fun o ho => ?_
  have := hall o ho
  cases o with
  | none => cases this
  | some c => rfl
theorem miss_take {α : Type} : ∀ (ns : List Int) (os : List (Option α)) (k : Nat), k < ns.length → os.length = ns.length → miss (ns.take (k + 1)) (os.take (k + 1)) = miss (ns.take k) (os.take k) ++ (if (os.getD k none).isNone then [ns.getD k 0] else [])
  | n :: ns, o :: os, 0, _, _ => by cases o <;> simp [miss]
  | n :: ns, o :: os, k + 1, hk, hl => by
    have := miss_take ns os k (by simpa using hk) (by simpa using hl)
    simp only [List.take_succ_cons, miss, List.getD_cons_succ]
    cases o <;> simp [this]
def missK (t : T) (k : Nat) : List Int := if t.state = 0 then miss (t.ns.take k) (t.vs.take k) else if t.state = 1 then miss (t.ns.take k) (t.cs.take k) else []
theorem missK_len (t : T) (k : Nat) : (missK t k).length ≤ k := by
  have : ∀ {α : Type} (ns : List Int) (os : List (Option α)), (miss ns os).length ≤ ns.length := by
    intro α ns
    induction ns with
    | nil => intro os; simp [miss]
    | cons n ns ih =>
      intro os
      cases os with
      | nil => simp [miss]
      | cons o os => unfold miss; have := ih os; split <;> simp <;> omega
  have h1 := this (t.ns.take k) (t.vs.take k)
  have h2 := this (t.ns.take k) (t.cs.take k)
  rw [List.length_take] at h1 h2
  unfold missK
  split
  · omega
  · split
    · omega
    · simp
theorem rowI_at {α : Type} (f : α → Int) (os : List α) (d : α) (zs : List Value) {k : Nat} (hk : k < os.length) : ((os.map f).map Vi ++ zs).toArray[k]? = some (Vi (f (os.getD k d))) := by
  rw [List.getElem?_toArray, List.getElem?_append_left (by simpa using hk)]
  simp [List.getD_eq_getElem?_getD, List.getElem?_eq_getElem hk]
theorem eV_at (os : List (Option Bool)) (k : Nat) : (os.map eV).getD k 0 = eV (os.getD k none) := by
  rw [List.getD_eq_getElem?_getD, List.getD_eq_getElem?_getD, List.getElem?_map]
  cases os[k]? <;> rfl
theorem eC_at {os : List (Option Int)} {k : Nat} (hk : k < os.length) : (os.map eC).getD k 0 = eC (os.getD k none) := by
  rw [List.getD_eq_getElem?_getD, List.getD_eq_getElem?_getD, List.getElem?_map, List.getElem?_eq_getElem hk]
  rfl
theorem look_at2 {α : Type} {ns : List Int} {os : List (Option α)} : ∀ {k : Nat}, ns.Nodup → os.length = ns.length → k < ns.length → look (ns.getD k 0) ns os = some (os.getD k none) ∧ ∀ x, put (ns.getD k 0) x ns os = os.set k (some x) := by
  induction ns generalizing os with
  | nil => intro k _ _ h; simp at h
  | cons m ns ih =>
    intro k hd hl hk
    cases os with
    | nil => simp at hl
    | cons o os =>
      have hd' := List.nodup_cons.1 hd
      cases k with
      | zero => simp [look, put]
      | succ k =>
        simp only [List.length_cons, Nat.add_lt_add_iff_right] at hk hl
        have hne : ns.getD k 0 ≠ m := fun e => hd'.1 (e ▸ mem_at hk)
        have := ih (os := os) hd'.2 (by simpa using hl) hk
        unfold look put
        simp only [List.getD_cons_succ]
        rw [if_neg hne]
        refine ⟨this.1, fun x => ?_⟩
        rw [if_neg hne, this.2 x]
        rfl
theorem look_no {α : Type} {n : Int} : ∀ {ns : List Int} {os : List (Option α)}, n ∉ ns → look n ns os = none
  | [], [], _ => rfl
  | [], _ :: _, _ => rfl
  | _ :: _, [], _ => rfl
  | m :: ns, o :: os, h => by
    simp only [List.mem_cons, not_or] at h
    unfold look
    rw [if_neg h.1]
    exact look_no h.2
theorem vote_none {t : T} {n : Int} {y : Bool} (h : n ∉ t.ns) : t.vote n y = (1, t) := by simp [T.vote, say, look_no h]
theorem vote_same {t : T} {k : Nat} {y : Bool} (hd : t.ns.Nodup) (hl : t.vs.length = t.ns.length) (hk : k < t.ns.length) (ho : t.vs.getD k none = some y) : t.vote (t.ns.getD k 0) y = (0, t) := by
  unfold T.vote say
  rw [(look_at2 hd hl hk).1, ho]
  simp
theorem vote_bad {t : T} {k : Nat} {y : Bool} (hd : t.ns.Nodup) (hl : t.vs.length = t.ns.length) (hk : k < t.ns.length) (ho : t.vs.getD k none ≠ some y) (h2 : t.vs.getD k none ≠ none ∨ t.state ≠ 0) : t.vote (t.ns.getD k 0) y = (14, t) := by
  unfold T.vote say
  rw [(look_at2 hd hl hk).1]
  cases e : t.vs.getD k none with
  | none =>
    have h3 : t.state ≠ 0 := by
      rcases h2 with h2 | h2
      · exact absurd e h2
      · exact h2
    simp [h3]
  | some z =>
    have hz : z ≠ y := fun e' => ho (by rw [e, e'])
    simp [hz]
theorem vote_ok {t : T} {k : Nat} {y : Bool} (hd : t.ns.Nodup) (hl : t.vs.length = t.ns.length) (hk : k < t.ns.length) (ho : t.vs.getD k none = none) (h2 : t.state = 0) : t.vote (t.ns.getD k 0) y = (0, { t with vs := t.vs.set k (some y) }) := by
  unfold T.vote say
  rw [(look_at2 hd hl hk).1, ho]
  simp only [h2, decide_true, if_true]
  rw [(look_at2 hd hl hk).2]
theorem exit_none {t : T} {n c : Int} (h : n ∉ t.ns) : t.exit n c = (1, t) := by
  unfold T.exit
  split
  · rfl
  · simp [say, look_no h]
theorem exit_same {t : T} {k : Nat} {c : Int} (hb : ¬ (c < 0 ∨ 255 < c)) (hd : t.ns.Nodup) (hl : t.cs.length = t.ns.length) (hk : k < t.ns.length) (ho : t.cs.getD k none = some c) : t.exit (t.ns.getD k 0) c = (0, t) := by
  rw [exit_yes hb]
  unfold say
  rw [(look_at2 hd hl hk).1, ho]
  simp
theorem exit_bad {t : T} {k : Nat} {c : Int} (hb : ¬ (c < 0 ∨ 255 < c)) (hd : t.ns.Nodup) (hl : t.cs.length = t.ns.length) (hk : k < t.ns.length) (ho : t.cs.getD k none ≠ some c) (h2 : t.cs.getD k none ≠ none ∨ t.state ≠ 1) : t.exit (t.ns.getD k 0) c = (14, t) := by
  rw [exit_yes hb]
  unfold say
  rw [(look_at2 hd hl hk).1]
  cases e : t.cs.getD k none with
  | none =>
    have h3 : t.state ≠ 1 := by
      rcases h2 with h2 | h2
      · exact absurd e h2
      · exact h2
    simp [h3]
  | some z =>
    have hz : z ≠ c := fun e' => ho (by rw [e, e'])
    simp [hz]
theorem exit_ok {t : T} {k : Nat} {c : Int} (hb : ¬ (c < 0 ∨ 255 < c)) (hd : t.ns.Nodup) (hl : t.cs.length = t.ns.length) (hk : k < t.ns.length) (ho : t.cs.getD k none = none) (h2 : t.state = 1) : t.exit (t.ns.getD k 0) c = (0, { t with cs := t.cs.set k (some c) }) := by
  rw [exit_yes hb]
  unfold say
  rw [(look_at2 hd hl hk).1, ho]
  simp only [h2, decide_true, if_true]
  rw [(look_at2 hd hl hk).2]
set_option maxRecDepth 100000 in
set_option maxHeartbeats 1000000 in
theorem has_c {W : World} {F : Snap} {cs : List Res} (w : World) (x : Int) {A : Option Addr} {cap : Nat} {xs : List Int} (h : St W F cs w) (hR : RdS (Kd.one Vi) F A xs) (hn : xs.length ≤ 100000) : Calls Try.prog 31 #[.slice A xs.length cap, Vi x] w fun e w' => e = .returned (.bool (decide (x ∈ xs))) ∧ St W F cs w'  := by
  refine enter (P := Try.prog) (args := [.slice A xs.length cap, Vi x]) Try.func31 rfl rfl rfl ?_
  
  refine WC.seq ?_
  refine WC.reg ?_
  refine WL.v (Runs.assign rfl) rfl ?_
  refine WL.nil ?_
  refine WN.thn ?_
  refine WC.seq ?_
  refine WC.seq ?_
  refine WC.reg ?_
  refine WL.v (Runs.assign rfl) rfl ?_
  refine WL.nil ?_
  refine WN.thn ?_
  refine WC.block ?_
  refine WC.loop (σ := Nat) (fun q_ => [(0, .slice A xs.length cap), (1, Vi x), (5, .int .i64 (q_ : Int))]) (fun q_ w => q_ ≤ xs.length ∧ (∀ j, j < q_ → xs.getD j 0 ≠ x) ∧ St W F cs w) (fun q_ => xs.length - q_) (0) (by repeat (first | exact trivial | refine ⟨rfl, ?_⟩)) (⟨by omega, fun j hj => absurd hj (Nat.not_lt_zero _), h⟩) ?_
  rintro k w1 ⟨hk, hno, hL⟩
  try dsimp only at hk hno hL
  refine WC.sub (s := [(0, .slice A xs.length cap), (1, Vi x), (5, .int .i64 (k : Int))]) (by repeat (first | exact trivial | refine ⟨rfl, ?_⟩)) ?_
  refine WC.seq ?_
  refine WC.seq ?_
  refine WC.reg ?_
  refine WL.v (Runs.move rfl) rfl ?_
  refine WL.v (Runs.move rfl) rfl ?_
  refine WL.v (Runs.llen Try.underlying22 rfl rfl) rfl ?_
  refine WL.v (Runs.lss rfl rfl) rfl ?_
  refine WL.nil ?_
  refine WN.thn ?_
  refine WC.cond rfl (fun c2 => ?_) (fun c2 => ?_)
  · try simp only [decide_eq_true_eq, decide_eq_false_iff_not, Bool.not_eq_true', Bool.not_eq_false', Bool.and_eq_true, Int.not_lt, Int.not_le] at c2
    first
    | (exfalso; omega)
    | skip
      refine WC.skip ?_
      refine WN.thn ?_
      refine WC.seq ?_
      refine WC.block ?_
      refine WC.seq ?_
      obtain ⟨ad, rfl, hrd⟩ := rd1 hR (by omega)
      refine WC.reg ?_
      refine WL.v (Runs.move rfl) rfl ?_
      refine WL.v (Runs.move rfl) rfl ?_
      refine WL.v (Runs.lidxN Try.underlying22 inf3 rfl rfl (n := k) rfl (by omega)) rfl ?_
      refine WL.v (Runs.loadR (f := Vi) (0 : Int) hL hrd (n := k) (by omega) Try.underlying3 rfl rfl) rfl ?_
      refine WL.v (Runs.move rfl) rfl ?_
      refine WL.v (Runs.eql rfl rfl) rfl ?_
      refine WL.nil ?_
      refine WN.thn ?_
      refine WC.cond rfl (fun c3 => ?_) (fun c3 => ?_)
      · try simp only [decide_eq_true_eq, decide_eq_false_iff_not, Bool.not_eq_true', Bool.not_eq_false', Bool.and_eq_true, Int.not_lt, Int.not_le] at c3
        first
        | (exfalso; omega)
        | skip
          refine WC.seq ?_
          refine WC.reg ?_
          refine WL.v (Runs.assign rfl) rfl ?_
          refine WL.nil ?_
          refine WN.thn ?_
          refine WC.ret ?_
          refine ret1 rfl rfl ⟨?_, hL⟩
          have hm : x ∈ xs := by
            have := mem_at (xs := xs) (j := k) (by omega)
            simp_all
          simp [hm]
      · try simp only [decide_eq_true_eq, decide_eq_false_iff_not, Bool.not_eq_true', Bool.not_eq_false', Bool.and_eq_true, Int.not_lt, Int.not_le] at c3
        first
        | (exfalso; omega)
        | skip
          refine WC.skip ?_
          refine WN.blk ?_
          refine WN.thn ?_
          refine WC.reg ?_
          refine WL.v (Runs.move rfl) rfl ?_
          refine WL.v (Runs.addn rfl rfl (by omega)) rfl ?_
          refine WL.v (Runs.assign rfl) rfl ?_
          refine WL.nil ?_
          refine WN.again (k + 1) (by omega) ⟨rfl, rfl, rfl, trivial⟩ ⟨by omega, fun j hj => ?_, hL⟩
          by_cases e : j = k
          · subst e; assumption
          · exact hno j (by omega)
  · try simp only [decide_eq_true_eq, decide_eq_false_iff_not, Bool.not_eq_true', Bool.not_eq_false', Bool.and_eq_true, Int.not_lt, Int.not_le] at c2
    first
    | (exfalso; omega)
    | skip
      refine WC.exit ?_
      refine WX.thn ?_
      refine WX.cut ?_
      refine WX.hit ?_
      refine WN.thn ?_
      refine WC.seq ?_
      refine WC.reg ?_
      refine WL.v (Runs.assign rfl) rfl ?_
      refine WL.nil ?_
      refine WN.thn ?_
      refine WC.ret ?_
      refine ret1 rfl rfl ⟨?_, hL⟩
      obtain rfl : k = xs.length := by omega
      have hm := not_in hno
      simp [hm]
set_option maxRecDepth 100000 in
set_option maxHeartbeats 1000000 in
theorem at_c {W : World} {F : Snap} {cs : List Res} (w : World) (n : Int) {b : Nat} {A : Option Addr} {cap : Nat} {ns : List Int} (h : St W F cs w) (hs0 : cellF F ⟨b, 0, none⟩ = some (.slice A ns.length cap)) (hR : RdS (Kd.one Vi) F A ns) (hn : ns.length ≤ 100000) : Calls Try.prog 35 #[.pointer (some ⟨b, 0, none⟩), Vi n] w fun e w' => ∃ v, e = .returned (Vi v) ∧ isAt ns n v ∧ St W F cs w'  := by
  refine enter (P := Try.prog) (args := [.pointer (some ⟨b, 0, none⟩), Vi n]) Try.func35 rfl rfl rfl ?_
  refine WC.seq ?_
  refine WC.reg ?_
  refine WL.v (Runs.assign rfl) rfl ?_
  refine WL.nil ?_
  refine WN.thn ?_
  refine WC.seq ?_
  refine WC.seq ?_
  refine WC.reg ?_
  refine WL.v (Runs.assign rfl) rfl ?_
  refine WL.nil ?_
  refine WN.thn ?_
  refine WC.block ?_
  refine WC.loop (σ := Nat) (fun q_ => [(0, .pointer (some ⟨b, 0, none⟩)), (1, Vi n), (5, .int .i64 (q_ : Int))]) (fun q_ w => q_ ≤ ns.length ∧ (∀ j, j < q_ → ns.getD j 0 ≠ n) ∧ St W F cs w) (fun q_ => ns.length - q_) (0) (by repeat (first | exact trivial | refine ⟨rfl, ?_⟩)) (⟨by omega, fun j hj => absurd hj (Nat.not_lt_zero _), h⟩) ?_
  rintro k w1 ⟨hk, hno, hL⟩
  try dsimp only at hk hno hL
  refine WC.sub (s := [(0, .pointer (some ⟨b, 0, none⟩)), (1, Vi n), (5, .int .i64 (k : Int))]) (by repeat (first | exact trivial | refine ⟨rfl, ?_⟩)) ?_
  refine WC.seq ?_
  refine WC.seq ?_
  refine WC.reg ?_
  refine WL.v (Runs.move rfl) rfl ?_
  refine WL.v (Runs.move rfl) rfl ?_
  refine WL.v (Runs.nilCheckP rfl) rfl ?_
  refine WL.v (Runs.fld fld51_0 rfl) rfl ?_
  refine WL.v (Runs.load1 Try.underlying22 rfl rfl (hL.cell hs0)) rfl ?_
  refine WL.v (Runs.llen Try.underlying22 rfl rfl) rfl ?_
  refine WL.v (Runs.lss rfl rfl) rfl ?_
  refine WL.nil ?_
  refine WN.thn ?_
  refine WC.cond rfl (fun c2 => ?_) (fun c2 => ?_)
  · try simp only [decide_eq_true_eq, decide_eq_false_iff_not, Bool.not_eq_true', Bool.not_eq_false', Bool.and_eq_true, Int.not_lt, Int.not_le] at c2
    first
    | (exfalso; omega)
    | skip
      refine WC.skip ?_
      refine WN.thn ?_
      refine WC.seq ?_
      refine WC.block ?_
      refine WC.seq ?_
      obtain ⟨ad, rfl, hrd⟩ := rd1 hR (by omega)
      refine WC.reg ?_
      refine WL.v (Runs.move rfl) rfl ?_
      refine WL.v (Runs.nilCheckP rfl) rfl ?_
      refine WL.v (Runs.fld fld51_0 rfl) rfl ?_
      refine WL.v (Runs.load1 Try.underlying22 rfl rfl (hL.cell hs0)) rfl ?_
      refine WL.v (Runs.move rfl) rfl ?_
      refine WL.v (Runs.lidxN Try.underlying22 inf3 rfl rfl (n := k) rfl (by omega)) rfl ?_
      refine WL.v (Runs.loadR (f := Vi) (0 : Int) hL hrd (n := k) (by omega) Try.underlying3 rfl rfl) rfl ?_
      refine WL.v (Runs.move rfl) rfl ?_
      refine WL.v (Runs.eql rfl rfl) rfl ?_
      refine WL.nil ?_
      refine WN.thn ?_
      refine WC.cond rfl (fun c3 => ?_) (fun c3 => ?_)
      · try simp only [decide_eq_true_eq, decide_eq_false_iff_not, Bool.not_eq_true', Bool.not_eq_false', Bool.and_eq_true, Int.not_lt, Int.not_le] at c3
        first
        | (exfalso; omega)
        | skip
          refine WC.seq ?_
          refine WC.reg ?_
          refine WL.v (Runs.move rfl) rfl ?_
          refine WL.v (Runs.assign rfl) rfl ?_
          refine WL.nil ?_
          refine WN.thn ?_
          refine WC.ret ?_
          exact ret1 rfl rfl ⟨_, rfl, .inr ⟨k, rfl, by omega, by assumption⟩, hL⟩
      · try simp only [decide_eq_true_eq, decide_eq_false_iff_not, Bool.not_eq_true', Bool.not_eq_false', Bool.and_eq_true, Int.not_lt, Int.not_le] at c3
        first
        | (exfalso; omega)
        | skip
          refine WC.skip ?_
          refine WN.blk ?_
          refine WN.thn ?_
          refine WC.reg ?_
          refine WL.v (Runs.move rfl) rfl ?_
          refine WL.v (Runs.addn rfl rfl (by omega)) rfl ?_
          refine WL.v (Runs.assign rfl) rfl ?_
          refine WL.nil ?_
          refine WN.again (k + 1) (by omega) ⟨rfl, rfl, rfl, trivial⟩ ⟨by omega, fun j hj => ?_, hL⟩
          by_cases e : j = k
          · subst e; assumption
          · exact hno j (by omega)
  · try simp only [decide_eq_true_eq, decide_eq_false_iff_not, Bool.not_eq_true', Bool.not_eq_false', Bool.and_eq_true, Int.not_lt, Int.not_le] at c2
    first
    | (exfalso; omega)
    | skip
      refine WC.exit ?_
      refine WX.thn ?_
      refine WX.cut ?_
      refine WX.hit ?_
      refine WN.thn ?_
      refine WC.seq ?_
      refine WC.reg ?_
      refine WL.v (Runs.assign rfl) rfl ?_
      refine WL.nil ?_
      refine WN.thn ?_
      refine WC.ret ?_
      obtain rfl : k = ns.length := by omega
      exact ret1 rfl rfl ⟨_, rfl, .inl ⟨rfl, not_in hno⟩, hL⟩
set_option maxRecDepth 100000 in
set_option maxHeartbeats 1000000 in
theorem rstate_z {W : World} {F : Snap} {cs : List Res} (w : World) {b : Nat} {t : T} (h : St W F cs w) (hz : RZ F b t) : Calls Try.prog 14 #[.pointer (some ⟨b, 0, none⟩)] w fun e w' => e = .returned (Vi t.state) ∧ St W F cs w'  := by
  refine enter (P := Try.prog) (args := [.pointer (some ⟨b, 0, none⟩)]) Try.func14 rfl rfl rfl ?_
  obtain ⟨A1, cap1, hs1, hR1⟩ := hz.s1
  obtain ⟨A2, cap2, hs2, hR2⟩ := hz.s2
  have hlv := hz.lv
  have hlc := hz.lc
  have hsm := hz.small
  have hq := state_eq hz
  refine WC.seq ?_
  refine WC.reg ?_
  refine WL.v (Runs.assign rfl) rfl ?_
  refine WL.nil ?_
  refine WN.thn ?_
  refine WC.seq ?_
  refine WC.seq ?_
  refine WC.reg ?_
  refine WL.v (Runs.move rfl) rfl ?_
  refine WL.v (Runs.nilCheckP rfl) rfl ?_
  refine WL.v (Runs.fld fld51_1 rfl) rfl ?_
  refine WL.v (Runs.load1 Try.underlying22 rfl rfl (h.cell hs1)) rfl ?_
  refine WL.call can31 rfl rfl (has_c _ 2 h hR1 (by rw [List.length_map]; omega)) ?_
  rintro _ w1 ⟨rfl, h1⟩
  refine ⟨_, rfl, ?_⟩
  refine WL.nil ?_
  refine WN.thn ?_
  refine WC.cond rfl (fun c2 => ?_) (fun c2 => ?_)
  · try simp only [decide_eq_true_eq, decide_eq_false_iff_not, Bool.not_eq_true', Bool.not_eq_false', Bool.and_eq_true, Int.not_lt, Int.not_le] at c2
    first
    | (exfalso; omega)
    | skip
      refine WC.seq ?_
      refine WC.reg ?_
      refine WL.v (Runs.assign rfl) rfl ?_
      refine WL.nil ?_
      refine WN.thn ?_
      refine WC.ret ?_
      refine ret1 rfl rfl ⟨?_, h1⟩
      rw [hq]
      simp only [*, if_true, if_false]
  · try simp only [decide_eq_true_eq, decide_eq_false_iff_not, Bool.not_eq_true', Bool.not_eq_false', Bool.and_eq_true, Int.not_lt, Int.not_le] at c2
    first
    | (exfalso; omega)
    | skip
      refine WC.skip ?_
      refine WN.thn ?_
      refine WC.seq ?_
      refine WC.seq ?_
      refine WC.reg ?_
      refine WL.v (Runs.move rfl) rfl ?_
      refine WL.v (Runs.nilCheckP rfl) rfl ?_
      refine WL.v (Runs.fld fld51_1 rfl) rfl ?_
      refine WL.v (Runs.load1 Try.underlying22 rfl rfl (h1.cell hs1)) rfl ?_
      refine WL.call can31 rfl rfl (has_c _ 0 h1 hR1 (by rw [List.length_map]; omega)) ?_
      rintro _ w3 ⟨rfl, h3⟩
      refine ⟨_, rfl, ?_⟩
      refine WL.nil ?_
      refine WN.thn ?_
      refine WC.cond rfl (fun c4 => ?_) (fun c4 => ?_)
      · try simp only [decide_eq_true_eq, decide_eq_false_iff_not, Bool.not_eq_true', Bool.not_eq_false', Bool.and_eq_true, Int.not_lt, Int.not_le] at c4
        first
        | (exfalso; omega)
        | skip
          refine WC.seq ?_
          refine WC.reg ?_
          refine WL.v (Runs.assign rfl) rfl ?_
          refine WL.nil ?_
          refine WN.thn ?_
          refine WC.ret ?_
          refine ret1 rfl rfl ⟨?_, h3⟩
          rw [hq]
          simp only [*, if_true, if_false]
      · try simp only [decide_eq_true_eq, decide_eq_false_iff_not, Bool.not_eq_true', Bool.not_eq_false', Bool.and_eq_true, Int.not_lt, Int.not_le] at c4
        first
        | (exfalso; omega)
        | skip
          refine WC.skip ?_
          refine WN.thn ?_
          refine WC.seq ?_
          refine WC.seq ?_
          refine WC.reg ?_
          refine WL.v (Runs.move rfl) rfl ?_
          refine WL.v (Runs.nilCheckP rfl) rfl ?_
          refine WL.v (Runs.fld fld51_2 rfl) rfl ?_
          refine WL.v (Runs.load1 Try.underlying22 rfl rfl (h3.cell hs2)) rfl ?_
          refine WL.call can31 rfl rfl (has_c _ (-1) h3 hR2 (by rw [List.length_map]; omega)) ?_
          rintro _ w5 ⟨rfl, h5⟩
          refine ⟨_, rfl, ?_⟩
          refine WL.nil ?_
          refine WN.thn ?_
          refine WC.cond rfl (fun c6 => ?_) (fun c6 => ?_)
          · try simp only [decide_eq_true_eq, decide_eq_false_iff_not, Bool.not_eq_true', Bool.not_eq_false', Bool.and_eq_true, Int.not_lt, Int.not_le] at c6
            first
            | (exfalso; omega)
            | skip
              refine WC.seq ?_
              refine WC.reg ?_
              refine WL.v (Runs.assign rfl) rfl ?_
              refine WL.nil ?_
              refine WN.thn ?_
              refine WC.ret ?_
              refine ret1 rfl rfl ⟨?_, h5⟩
              rw [hq]
              simp only [*, if_true, if_false]
          · try simp only [decide_eq_true_eq, decide_eq_false_iff_not, Bool.not_eq_true', Bool.not_eq_false', Bool.and_eq_true, Int.not_lt, Int.not_le] at c6
            first
            | (exfalso; omega)
            | skip
              refine WC.skip ?_
              refine WN.thn ?_
              refine WC.seq ?_
              refine WC.reg ?_
              refine WL.v (Runs.assign rfl) rfl ?_
              refine WL.nil ?_
              refine WN.thn ?_
              refine WC.ret ?_
              refine ret1 rfl rfl ⟨?_, h5⟩
              rw [hq]
              simp only [*, if_true, if_false]
set_option maxRecDepth 100000 in
set_option maxHeartbeats 1000000 in
theorem rworst_c {W : World} {F : Snap} {cs : List Res} (w : World) {A : Option Addr} {cap : Nat} {xs : List Int} (h : St W F cs w) (hR : RdS (Kd.one Vi) F A xs) (hn : xs.length ≤ 100000) : Calls Try.prog 21 #[.slice A xs.length cap] w fun e w' => e = .returned (Vi (worst xs)) ∧ St W F cs w'  := by
  refine enter (P := Try.prog) (args := [.slice A xs.length cap]) Try.func21 rfl rfl rfl ?_
  refine WC.seq ?_
  refine WC.reg ?_
  refine WL.v (Runs.assign rfl) rfl ?_
  refine WL.nil ?_
  refine WN.thn ?_
  refine WC.seq ?_
  refine WC.reg ?_
  refine WL.v (Runs.assign rfl) rfl ?_
  refine WL.nil ?_
  refine WN.thn ?_
  refine WC.seq ?_
  refine WC.seq ?_
  refine WC.reg ?_
  refine WL.v (Runs.assign rfl) rfl ?_
  refine WL.nil ?_
  refine WN.thn ?_
  refine WC.block ?_
  refine WC.loop (σ := Nat) (fun q_ => [(0, .slice A xs.length cap), (3, Vi (worst (xs.take q_))), (4, .int .i64 (q_ : Int))]) (fun q_ w => q_ ≤ xs.length ∧ St W F cs w) (fun q_ => xs.length - q_) (0) (by repeat (first | exact trivial | refine ⟨rfl, ?_⟩)) (⟨by omega, h⟩) ?_
  rintro k w1 ⟨hk, hL⟩
  try dsimp only at hk hL
  refine WC.sub (s := [(0, .slice A xs.length cap), (3, Vi (worst (xs.take k))), (4, .int .i64 (k : Int))]) (by repeat (first | exact trivial | refine ⟨rfl, ?_⟩)) ?_
  refine WC.seq ?_
  refine WC.seq ?_
  refine WC.reg ?_
  refine WL.v (Runs.move rfl) rfl ?_
  refine WL.v (Runs.move rfl) rfl ?_
  refine WL.v (Runs.llen Try.underlying22 rfl rfl) rfl ?_
  refine WL.v (Runs.lss rfl rfl) rfl ?_
  refine WL.nil ?_
  refine WN.thn ?_
  refine WC.cond rfl (fun c2 => ?_) (fun c2 => ?_)
  · try simp only [decide_eq_true_eq, decide_eq_false_iff_not, Bool.not_eq_true', Bool.not_eq_false', Bool.and_eq_true, Int.not_lt, Int.not_le] at c2
    first
    | (exfalso; omega)
    | skip
      refine WC.skip ?_
      refine WN.thn ?_
      refine WC.seq ?_
      refine WC.block ?_
      refine WC.seq ?_
      obtain ⟨ad, rfl, hrd⟩ := rd1 hR (by omega)
      have hcase : k = 0 ∨ 0 < k := by omega
      rcases hcase with hz0 | hz1
      · skip
        refine WC.reg ?_
        refine WL.v (Runs.move rfl) rfl ?_
        refine WL.v (Runs.boolT (c := true) (Runs.eql rfl rfl) (by rw [decide_eq_true_eq]; omega)) rfl ?_
        refine WL.v (Runs.move rfl) rfl ?_
        refine WL.goff rfl rfl rfl rfl ?_
        refine WL.goff rfl rfl rfl rfl ?_
        refine WL.goff rfl rfl rfl rfl ?_
        refine WL.goff rfl rfl rfl rfl ?_
        refine WL.goff rfl rfl rfl rfl ?_
        refine WL.goff rfl rfl rfl rfl ?_
        refine WL.v (Runs.pick rfl rfl rfl) rfl ?_
        refine WL.nil ?_
        refine WN.thn ?_
        refine WC.condT rfl (rfl) ?_
        refine WC.reg ?_
        refine WL.v (Runs.move rfl) rfl ?_
        refine WL.v (Runs.move rfl) rfl ?_
        refine WL.v (Runs.lidxN Try.underlying22 inf3 rfl rfl (n := k) rfl (by omega)) rfl ?_
        refine WL.v (Runs.loadR (f := Vi) (0 : Int) hL hrd (n := k) (by omega) Try.underlying3 rfl rfl) rfl ?_
        refine WL.v (Runs.assign rfl) rfl ?_
        refine WL.nil ?_
        refine WN.blk ?_
        refine WN.thn ?_
        refine WC.reg ?_
        refine WL.v (Runs.move rfl) rfl ?_
        refine WL.v (Runs.addn rfl rfl (by omega)) rfl ?_
        refine WL.v (Runs.assign rfl) rfl ?_
        refine WL.nil ?_
        refine WN.again (k + 1) (by omega) ⟨rfl, ?_, rfl, trivial⟩ ⟨by omega, hL⟩
        show _ = some (Vi (worst (xs.take (k + 1))))
        rw [worst_step xs k (by omega), if_pos (show k = 0 ∨ worst (xs.take k) < xs.getD k 0 by omega)]
        rfl
      · skip
        refine WC.reg ?_
        refine WL.v (Runs.move rfl) rfl ?_
        refine WL.v (Runs.boolT (c := false) (Runs.eql rfl rfl) (by rw [decide_eq_false_iff_not]; omega)) rfl ?_
        refine WL.v (Runs.move rfl) rfl ?_
        refine WL.gon rfl rfl rfl ?_
        refine WL.v (Runs.move rfl) rfl ?_
        refine WL.gon rfl rfl rfl ?_
        refine WL.v (Runs.move rfl) rfl ?_
        refine WL.gon rfl rfl rfl ?_
        refine WL.v (Runs.lidxN Try.underlying22 inf3 rfl rfl (n := k) rfl (by omega)) rfl ?_
        refine WL.gon rfl rfl rfl ?_
        refine WL.v (Runs.loadR (f := Vi) (0 : Int) hL hrd (n := k) (by omega) Try.underlying3 rfl rfl) rfl ?_
        refine WL.gon rfl rfl rfl ?_
        refine WL.v (Runs.move rfl) rfl ?_
        refine WL.gon rfl rfl rfl ?_
        refine WL.v (Runs.gtr rfl rfl) rfl ?_
        refine WL.v (Runs.pick rfl rfl rfl) rfl ?_
        refine WL.nil ?_
        refine WN.thn ?_
        refine WC.cond rfl (fun c3 => ?_) (fun c3 => ?_)
        · try simp only [decide_eq_true_eq, decide_eq_false_iff_not, Bool.not_eq_true', Bool.not_eq_false', Bool.and_eq_true, Int.not_lt, Int.not_le] at c3
          first
          | (exfalso; omega)
          | skip
            refine WC.reg ?_
            refine WL.v (Runs.move rfl) rfl ?_
            refine WL.v (Runs.move rfl) rfl ?_
            refine WL.v (Runs.lidxN Try.underlying22 inf3 rfl rfl (n := k) rfl (by omega)) rfl ?_
            refine WL.v (Runs.loadR (f := Vi) (0 : Int) hL hrd (n := k) (by omega) Try.underlying3 rfl rfl) rfl ?_
            refine WL.v (Runs.assign rfl) rfl ?_
            refine WL.nil ?_
            refine WN.blk ?_
            refine WN.thn ?_
            refine WC.reg ?_
            refine WL.v (Runs.move rfl) rfl ?_
            refine WL.v (Runs.addn rfl rfl (by omega)) rfl ?_
            refine WL.v (Runs.assign rfl) rfl ?_
            refine WL.nil ?_
            refine WN.again (k + 1) (by omega) ⟨rfl, ?_, rfl, trivial⟩ ⟨by omega, hL⟩
            show _ = some (Vi (worst (xs.take (k + 1))))
            rw [worst_step xs k (by omega), if_pos (show k = 0 ∨ worst (xs.take k) < xs.getD k 0 by omega)]
            rfl
        · try simp only [decide_eq_true_eq, decide_eq_false_iff_not, Bool.not_eq_true', Bool.not_eq_false', Bool.and_eq_true, Int.not_lt, Int.not_le] at c3
          first
          | (exfalso; omega)
          | skip
            refine WC.skip ?_
            refine WN.blk ?_
            refine WN.thn ?_
            refine WC.reg ?_
            refine WL.v (Runs.move rfl) rfl ?_
            refine WL.v (Runs.addn rfl rfl (by omega)) rfl ?_
            refine WL.v (Runs.assign rfl) rfl ?_
            refine WL.nil ?_
            refine WN.again (k + 1) (by omega) ⟨rfl, ?_, rfl, trivial⟩ ⟨by omega, hL⟩
            show _ = some (Vi (worst (xs.take (k + 1))))
            rw [worst_step xs k (by omega), if_neg (show ¬ (k = 0 ∨ worst (xs.take k) < xs.getD k 0) by omega)]
            rfl
  · try simp only [decide_eq_true_eq, decide_eq_false_iff_not, Bool.not_eq_true', Bool.not_eq_false', Bool.and_eq_true, Int.not_lt, Int.not_le] at c2
    first
    | (exfalso; omega)
    | skip
      refine WC.exit ?_
      refine WX.thn ?_
      refine WX.cut ?_
      refine WX.hit ?_
      refine WN.thn ?_
      refine WC.seq ?_
      refine WC.reg ?_
      refine WL.v (Runs.move rfl) rfl ?_
      refine WL.v (Runs.assign rfl) rfl ?_
      refine WL.nil ?_
      refine WN.thn ?_
      refine WC.ret ?_
      obtain rfl : k = xs.length := by omega
      refine ret1 rfl rfl ⟨?_, hL⟩
      rw [List.take_of_length_le (Nat.le_refl _)]
set_option maxRecDepth 100000 in
set_option maxHeartbeats 1000000 in
theorem rcode_z {W : World} {F : Snap} {cs : List Res} (w : World) {b : Nat} {t : T} (h : St W F cs w) (hz : RZ F b t) : Calls Try.prog 16 #[.pointer (some ⟨b, 0, none⟩)] w fun e w' => e = .returned (Vi t.code) ∧ St W F cs w'  := by
  refine enter (P := Try.prog) (args := [.pointer (some ⟨b, 0, none⟩)]) Try.func16 rfl rfl rfl ?_
  obtain ⟨A2, cap2, hs2, hR2⟩ := hz.s2
  have hlc := hz.lc
  have hsm := hz.small
  refine WC.seq ?_
  refine WC.reg ?_
  refine WL.v (Runs.assign rfl) rfl ?_
  refine WL.nil ?_
  refine WN.thn ?_
  refine WC.seq ?_
  refine WC.seq ?_
  refine WC.reg ?_
  refine WL.v (Runs.move rfl) rfl ?_
  refine WL.call can14 rfl rfl (rstate_z _ h hz) ?_
  rintro _ w1 ⟨rfl, h1⟩
  refine ⟨_, rfl, ?_⟩
  refine WL.v (Runs.neq rfl rfl) rfl ?_
  refine WL.nil ?_
  refine WN.thn ?_
  refine WC.cond rfl (fun c2 => ?_) (fun c2 => ?_)
  · try simp only [decide_eq_true_eq, decide_eq_false_iff_not, Bool.not_eq_true', Bool.not_eq_false', Bool.and_eq_true, Int.not_lt, Int.not_le] at c2
    first
    | (exfalso; omega)
    | skip
      refine WC.seq ?_
      refine WC.reg ?_
      refine WL.v (Runs.assign rfl) rfl ?_
      refine WL.nil ?_
      refine WN.thn ?_
      refine WC.ret ?_
      refine ret1 rfl rfl ⟨?_, h1⟩
      have : t.state ≠ 3 := by simp_all
      simp [T.code, this]
  · try simp only [decide_eq_true_eq, decide_eq_false_iff_not, Bool.not_eq_true', Bool.not_eq_false', Bool.and_eq_true, Int.not_lt, Int.not_le] at c2
    first
    | (exfalso; omega)
    | skip
      refine WC.skip ?_
      refine WN.thn ?_
      refine WC.seq ?_
      refine WC.reg ?_
      refine WL.v (Runs.move rfl) rfl ?_
      refine WL.v (Runs.nilCheckP rfl) rfl ?_
      refine WL.v (Runs.fld fld51_2 rfl) rfl ?_
      refine WL.v (Runs.load1 Try.underlying22 rfl rfl (h1.cell hs2)) rfl ?_
      refine WL.call can21 rfl rfl (rworst_c _ h1 hR2 (by rw [List.length_map]; omega)) ?_
      rintro _ w3 ⟨rfl, h3⟩
      refine ⟨_, rfl, ?_⟩
      refine WL.v (Runs.assign rfl) rfl ?_
      refine WL.nil ?_
      refine WN.thn ?_
      refine WC.ret ?_
      refine ret1 rfl rfl ⟨?_, h3⟩
      have : t.state = 3 := by simp_all
      rw [code_eq hz this]
end Tal
end Go.Proofs.Ytkgmlngmojnpmaa
