/- Rows of one-cell elements, as lists. Plain lemmas. -/
import Derived.Test.YtkfkdenikkadhaaBaseH
namespace Go.Proofs.Ytkfkdenikkadhaa
open Go Go.RowKit
set_option linter.unusedVariables false
set_option linter.unusedSimpArgs false
namespace B
theorem one_cells {v : Value} (h : one_ v = true) : v.cells = #[v] := by cases v <;> first | rfl | cases h
def Row {α : Type} (E : TypeId) (f : α → Value) (r : Res) (v : Value) (xs : List α) : Prop := IsRow E 1 r v xs.length (xs.map f)
theorem Row.nil {α : Type} (E : TypeId) (f : α → Value) : Row E f [] (.slice none 0 0) [] := IsRow.nil E 1
theorem Row.val {α : Type} {E : TypeId} {f : α → Value} {r : Res} {v : Value} {xs : List α} (h : Row E f r v xs) : ∃ A cap, v = .slice A xs.length cap ∧ xs.length ≤ cap := IsRow.val h
theorem okb_lo {l : Int} {len cap : Nat} (h : 0 ≤ l ∧ l ≤ len) : okb (some l) none len cap := ⟨fun h e => (by cases e), fun l' e => by injection e with e; subst e; exact h⟩
theorem okb_hi {l : Int} {len cap : Nat} (h : 0 ≤ l ∧ l ≤ cap) : okb none (some l) len cap := ⟨fun h' e => (by injection e with e; subst e; exact h), fun l' e => (by cases e)⟩
theorem okb_lh {l h : Int} {len cap : Nat} (h0 : 0 ≤ l ∧ l ≤ h) (h1 : h ≤ cap) : okb (some l) (some h) len cap := ⟨fun h' e => (by injection e with e; subst e; omega), fun l' e => by injection e with e; subst e; simp only [hi_, Option.map_some, Option.getD_some]; omega⟩
theorem okb_no {len cap : Nat} : okb none none len cap := ⟨fun h e => (by cases e), fun l e => (by cases e)⟩
section
variable {P : Program} {Z : Post} {ks : List Fr} {N : Nat} {D : List Deferred} {sl : Sl} {W w : World} {ops : Array Oper} {rest : List Oper} {F G : Snap} {cs : List Res} {t t' T T' E : TypeId} {x y : Operand} {v zv : Value} {pos : String} {af : Array Edge} {sz bytes : Nat} {α : Type} {f : α → Value}
theorem Row.wcell {r : Res} {xs : List α} {i : Nat} (hr : Row E f r v xs) (h : St W F cs w) (hi : cs[i]? = some r) {A : Option Addr} {n cap : Nat} (hv : v = .slice A n cap) : xs = [] ∨ ∃ ad, A = some ad ∧ ∀ j x, xs[j]? = some x → w.cell? (ad.add j) = some (f x) := by
  rcases hr with ⟨rfl, rfl, hl, _⟩ | ⟨b, cap', arr, fz, rfl, rfl, hs, hn, hc, _⟩
  · exact .inl (List.eq_nil_of_length_eq_zero hl)
  · injection hv with hA
    refine .inr ⟨⟨b, 0, none⟩, hA.symm, fun j x hx => ?_⟩
    rw [add_mk, Nat.zero_add]
    refine h.ocell hi ?_
    have h1 : (xs.map f)[j]? = some (f x) := by simp [hx]
    rw [hc, List.getElem?_take] at h1
    split at h1
    · simpa using h1
    · cases h1
theorem Src.row {r : Res} {xs : List α} {i : Nat} (hr : Row E f r v xs) (h : St W F cs w) (hi : cs[i]? = some r) (h1 : ∀ x, one_ (f x) = true) : Src P w 1 v xs.length (xs.map f) := by
  obtain ⟨A, cap, hv, _⟩ := hr.val
  have hc := hr.wcell h hi hv
  subst hv
  refine Src.slice (by simp) ?_ (by rw [List.all_eq_true]; intro u hu; obtain ⟨x, _, rfl⟩ := List.mem_map.1 hu; exact h1 x)
  rcases hc with hc | ⟨ad, hA, hc⟩
  · exact .inl (by rw [hc]; rfl)
  · refine .inr ⟨ad, hA, fun j u hu => ?_⟩
    rw [List.getElem?_map] at hu
    obtain ⟨x, hx, rfl⟩ := Option.map_eq_some_iff.1 hu
    exact hc j x hx
/-- a slice that never changes any more, as it is appended -/
theorem Src.rd {A : Option Addr} {xs : List α} {n cap : Nat} (hr : RdS (Kd.one f) F A xs) (h : St W F cs w) (hn : n = xs.length) (h1 : ∀ x, one_ (f x) = true) : Src P w 1 (.slice A n cap) xs.length (xs.map f) := by
  subst hn
  refine Src.slice (by simp) ?_ (by rw [List.all_eq_true]; intro u hu; obtain ⟨x, _, rfl⟩ := List.mem_map.1 hu; exact h1 x)
  rcases hr with hr | ⟨ad, hA, hr⟩
  · exact .inl (by rw [hr]; rfl)
  · refine .inr ⟨ad, hA, fun j u hu => ?_⟩
    rw [List.getElem?_map] at hu
    obtain ⟨x, hx, rfl⟩ := Option.map_eq_some_iff.1 hu
    obtain ⟨c, hc1, hc2⟩ := hr j x hx
    have hc1 : c = [f x] := hc1
    subst hc1
    have := hc2 0 (f x) rfl
    simp only [Kd.one, Nat.mul_one, Nat.add_zero] at this
    exact h.cell this
theorem Src.lit {b m c : Nat} {arr : Array Value} {tt : TypeId} {fz : Nat × Nat} (h : St W F cs w) (i : Nat) (hi : cs[i]? = some [(b, .cells arr tt fz)]) (hm : arr.size = m) (h1 : arr.toList.all one_ = true) : Src P w 1 (.slice (some ⟨b, 0, none⟩) m c) m arr.toList :=
  Src.slice (by simp [hm]) (.inr ⟨_, rfl, fun j u hu => by rw [add_mk, Nat.zero_add]; exact h.ocell hi (by simpa using hu)⟩) h1
theorem WL.lit (h : St W F cs w) {d : Nat} (hd : Nat.ble (d + 1) N = true) {n : Nat} {ps : List (Nat × Operand)} {vs : List Value} (hT : P.underlying T = some (.slice E)) (hE : Inf P E zv 1 bytes) (hz : zv.cells.size = 1) (hp : pargs sl ps = some (numbered 0 vs)) (hn : vs.length = n)
    (hv : vs.all one_ = true) (hbig : Nat.ble n 16777216 = true)
    (k : ∀ b w', St W F ([(b, .cells vs.toArray E (0, 0))] :: cs) w' → WL P ops Z ks N D ((d, .slice (some ⟨b, 0, none⟩) n n) :: sl) rest w') :
    WL P ops Z ks N D sl ({ dst := some d, op := .buildSlice T n ps.toArray, type := t, pos := pos, after := af, guard := none } :: rest) w := by
  have h1 : ∀ u ∈ vs, one_ u = true := fun u hu => List.all_eq_true.1 hv u hu
  refine WL.buildSlice h hd hT (hE.elem hz rfl) hp hn (by rw [List.all_eq_true]; intro u hu; rw [one_cells (h1 u hu)]; rfl) (by have := Nat.le_of_ble_eq_true hbig; omega) (fun b w' h' => k b w' ?_)
  have : vs.flatMap (·.cells.toList) = vs := by
    clear k h' hp hn hv
    induction vs with
    | nil => rfl
    | cons u r ih =>
      rw [List.flatMap_cons, ih (fun u hu => h1 u (by simp [hu])), one_cells (h1 u (by simp))]
      rfl
  rwa [this] at h'
theorem WL.app (i : Nat) (h : St W F cs w) {r : Res} (hi : cs[i]? = some r) {d : Nat} (hd : Nat.ble (d + 1) N = true) {xv : Value} {m : Nat} {xs ys : List α} {src : List Value} {d' : TypeDesc} (hx : evs sl x = some v) (hy : evs sl y = some xv)
    (ht : P.underlying T = some (.slice E)) (ht' : P.underlying T' = some d') (hd' : d' = .string ∨ ∃ e, d' = .slice e) (hE : Inf P E zv 1 bytes) (hz : zv.cells.size = 1)
    (hr : Row E f r v xs) (hs : Src P w 1 xv m src) (hm : m = ys.length) (hsrc : src = ys.map f) (hsmall : (4 * (xs.length + m) + 4096) * bytes ≤ 281474976710656) (hnm : xs.length + m ≤ 9223372036854775807)
    (k : ∀ r' v' w', Row E f r' v' (xs ++ ys) → St W F (cs.set i r') w' → WL P ops Z ks N D ((d, v') :: sl) rest w') :
    WL P ops Z ks N D sl ({ dst := some d, op := .call { callee := .builtin .append, args := #[x, y], argTypes := #[T, T'] }, type := t, pos := pos, after := af, guard := none } :: rest) w := by
  subst hsrc; subst hm
  refine WL.append i h hi hd hx hy ht ht' hd' (hE.elem hz rfl) hr hs hsmall hnm (fun r' v' w' h1 h2 => k r' v' w' ?_ h2)
  unfold Row
  rw [List.length_append, List.map_append]
  exact h1
theorem Row.read {r : Res} {xs : List α} {A : Option Addr} {n cap : Nat} (hr : Row E f r v xs) (hv : v = .slice A n cap) (hG : ∀ p ∈ r, G p.1 = some p.2) : RdS (Kd.one f) G A xs := by
  rcases hr with ⟨rfl, rfl, hl, _⟩ | ⟨b, cap', arr, fz, rfl, rfl, hs, hn, hc, _⟩
  · exact .inl (List.eq_nil_of_length_eq_zero hl)
  · injection hv with hA
    refine .inr ⟨⟨b, 0, none⟩, hA.symm, fun j x hx => ⟨[f x], rfl, fun q u hu => ?_⟩⟩
    have : q = 0 ∧ u = f x := by
      cases q with
      | zero => exact ⟨rfl, by simpa using hu.symm⟩
      | succ q => simp at hu
    obtain ⟨rfl, rfl⟩ := this
    have hb : G b = some (.cells arr E fz) := hG (b, .cells arr E fz) (by simp)
    have h1 : (xs.map f)[j]? = some (f x) := by simp [hx]
    rw [hc, List.getElem?_take] at h1
    simp only [Kd.one, Nat.mul_one, Nat.add_zero, add_mk, Nat.zero_add, cellF, hb]
    split at h1
    · simpa using h1
    · cases h1
/-- an element of an array's value -/
theorem Runs.aggIdx {n : Nat} {m : Nat} {j : Int} {k : IntKind} {arr : Array Value} {d : TypeDesc} {u : Value} (hu : P.underlying T = some (.array m E)) (he : P.underlying E = some d) (hs : scal d = true) (hi : Inf P E zv 1 bytes) (hx : evs sl x = some (.agg arr)) (hy : evs sl y = some (.int k j)) (hj : j = (n : Int)) (hn : n < m) (hc : arr[n]? = some u) :
    Runs P sl (.index T x y) t w u := fun ρ hρ o ho _ => by
  obtain ⟨ti, h1, _, h3, _⟩ := hi.get
  subst hj
  have h4 : (isAgg E).run P w = .ok false w := by
    cases d <;> simp_all [isAgg, underlying, program, scal, Sem.run, bind, Sem.bind, pure]
  have h5 : (part E arr n).run P w = .ok u w := by
    unfold part
    rw [Sem.run_bind, h4]
    simp [Result.andThen, hc, Sem.run, pure]
  simp [execOp, ho, hρ _ _ hx, hρ _ _ hy, Instr.index, asIntOf, run_underlying hu, sizeOf, typeInfo, h1, h3, hn, h5]
theorem Runs.lsl_hi {A : Option Addr} {len cap n : Nat} {j : Int} (hu : P.underlying T = some (.slice E)) (hi : Inf P E zv sz bytes) (hx : evs sl x = some (.slice A len cap)) (hy : evs sl y = some (.int .i64 j)) (hj : j = (n : Int)) (hn : n ≤ cap) :
    Runs P sl (.slice T x none (some y) none) t w (.slice A n cap) := by
  have := Runs.lsl (t := t) (w := w) (lo := none) (hi' := some y) (l := none) (h := some j) hu hi hx rfl (by simp [evo, hy]) (okb_hi (by omega))
  have e : (if cap = lo_ none then A else A.map (fun a => a.add (lo_ none * sz))) = A := by
    split
    · rfl
    · cases A <;> simp [lo_, Addr.add]
  rw [e] at this
  simpa [hi_, lo_, hj] using this
theorem Runs.lsl_lo {A : Option Addr} {len cap n : Nat} {j : Int} (hu : P.underlying T = some (.slice E)) (hi : Inf P E zv sz bytes) (hx : evs sl x = some (.slice A len cap)) (hy : evs sl y = some (.int .i64 j)) (hj : j = (n : Int)) (hn : n ≤ len) :
    Runs P sl (.slice T x (some y) none none) t w (.slice (if cap = n then A else A.map (·.add (n * sz))) (len - n) (cap - n)) := by
  have := Runs.lsl (t := t) (w := w) (lo := some y) (hi' := none) (l := some j) (h := none) hu hi hx (by simp [evo, hy]) rfl (okb_lo (by omega))
  simpa [hi_, lo_, hj] using this
theorem St.nilRes (h : St W F cs w) : St W F ([] :: cs) w := ⟨h.bel, h.imm, by simpa using h.own, by simpa using h.nd⟩
theorem shr_nat {a n : Nat} {j : Int} (hj : j = (n : Int)) (hn : n ≤ 64) : ((a : Int) / 2 ^ min j.toNat IntKind.i64.bits) = ((a / 2 ^ n : Nat) : Int) := by
  subst hj
  rw [Int.toNat_natCast, show min n IntKind.i64.bits = n from Nat.min_eq_left hn]
  simp
theorem string_eq {s : ByteArray} {l : List UInt8} (h : s.data.toList = l) : s = ⟨l.toArray⟩ := by
  cases s; subst h; simp
end
end B
end Go.Proofs.Ytkfkdenikkadhaa
