/- Drawn regions in an order of one's own: a reading and an allocation that wait for nothing. Plain lemmas. -/
import Derived.Test.YtkfkdenikkadhaaBaseO
namespace Go.Proofs.Ytkfkdenikkadhaa
open Go Go.RowKit
set_option linter.unusedVariables false
set_option linter.unusedSimpArgs false
namespace B
section
variable {P : Program} {Z : Post} {ks : List Fr} {N : Nat} {D : List Deferred} {sl : Sl} {W w : World} {F : Snap} {cs : List Res} {ops : Array Oper} {t : TypeId} {v : Value} {pos : String} {af : Array Edge} {n : Nat} {L : Array Bool}
theorem Runs.mono {sl' : Sl} {op : Op} (h : Runs P sl op t w v) (hs : ∀ x u, evs sl x = some u → evs sl' x = some u) : Runs P sl' op t w v := fun ρ hρ => h ρ (fun x u hx => hρ x u (hs x u hx))
theorem evs_cons {d : Nat} {u0 : Value} (hf : lk sl d = none) : ∀ x u, evs sl x = some u → evs ((d, u0) :: sl) x = some u := by
  intro x u hx
  cases x with
  | tmp t =>
    show lk _ _ = _
    unfold lk
    have hx' : lk sl t = some u := hx
    cases hb : Nat.beq d t with
    | true => rw [← Nat.eq_of_beq_eq_true hb, hf] at hx'; cases hx'
    | false => simp only [hb]; exact hx'
  | const c => exact hx
  | global g => exact hx
  | func f => exact hx
theorem WDs.swap {x y : Nat × Value} (hne : Nat.beq x.1 y.1 = false) (h : WDs P ops Z ks N D (y :: x :: sl) L n w) : WDs P ops Z ks N D (x :: y :: sl) L n w := fun a ha => h a ⟨ha.df, ha.sz, fun e u hl => ha.ag e u (by
  obtain ⟨x1, x2⟩ := x
  obtain ⟨y1, y2⟩ := y
  unfold lk at hl ⊢
  unfold lk at hl ⊢
  cases hx : Nat.beq x1 e with
  | true =>
    have : Nat.beq y1 e = false := by
      cases hy : Nat.beq y1 e with
      | false => rfl
      | true =>
        have h1 := Nat.eq_of_beq_eq_true hx
        have h2 := Nat.eq_of_beq_eq_true hy
        rw [h1, h2] at hne
        rw [show Nat.beq e e = true from Nat.beq_refl e] at hne
        cases hne
    simp only [this, hx] at hl ⊢
    exact hl
  | false => simp only [hx] at hl ⊢; exact hl)⟩
theorem WDs.pure (hs : Region.noSelect ops = true) (k : Nat) {d : Nat} {op : Op} (ho : ops[k]? = some { dst := some d, op := op, type := t, pos := pos, after := af, guard := none }) (hf : Region.free .any ops L k = true) (hr : (Region.ready .any ops L).contains k = true)
    (h : ∀ w, Runs P sl op t w v) (hd : Nat.ble (d + 1) N = true) (kk : WDs P ops Z ks N D ((d, v) :: sl) (L.setIfInBounds k true) n w) : WDs P ops Z ks N D sl L (n + 1) w := fun a ha => by
  have hrun : ∀ w, (execOp a.eval { dst := some d, op := op, type := t, pos := pos, after := af, guard := none }).run P w = .ok (.value v) w := fun w => h w a.eval (fun x v hx => ha.ev hx) _ rfl rfl
  exact wpAny_first (v := v) ho (Region.noSelect_spec hs) (fun c a w h => h.elim) _ _ a w (Region.free_spec ho hf) (by simpa using hr) (.inl ⟨wants rfl, hrun⟩) (kk _ (ha.put (Nat.le_of_ble_eq_true hd) v))
/-- a reading (i) and an allocation (j), neither of which waits for the other -/
theorem WDs.both (h : St W F cs w) {i j d d' : Nat} {op : Op} {o' : Oper} {R : Nat → Res} {f : Nat → Value}
    (hr : Region.ready .any ops L = [i, j]) (hr1 : Region.ready .any ops (L.setIfInBounds i true) = [j]) (hr2 : Region.ready .any ops (L.setIfInBounds j true) = [i])
    (ho : ops[i]? = some { dst := some d, op := op, type := t, pos := pos, after := af, guard := none }) (ho' : ops[j]? = some o') (hg' : o'.guard = none)
    (hd : Nat.ble (d + 1) N = true) (hne : Nat.beq d d' = false) (hf : lk sl d' = none)
    (hl : ∀ w, St W F cs w → Runs P sl op t w v)
    (hj1 : ∀ {Z : Post} {ks : List Fr}, (∀ b w', St W F (R b :: cs) w' → WL P ops Z ks N D ((d', f b) :: sl) [] w') → WL P ops Z ks N D sl [o'] w)
    (hj2 : ∀ {Z : Post} {ks : List Fr}, (∀ b w', St W F (R b :: cs) w' → WL P ops Z ks N D ((d', f b) :: (d, v) :: sl) [] w') → WL P ops Z ks N D ((d, v) :: sl) [o'] w)
    (k : ∀ b w', St W F (R b :: cs) w' → WDs P ops Z ks N D ((d', f b) :: (d, v) :: sl) ((L.setIfInBounds i true).setIfInBounds j true) n w') :
    WDs P ops Z ks N D sl L (n + 2) w := by
  have hij : i ≠ j := by
    have hn : (Region.ready .any ops L).Nodup := List.Pairwise.sublist List.filter_sublist List.nodup_range
    rw [hr] at hn
    intro e
    subst e
    simp at hn
  refine WDs.two hr ho rfl ho' hg' ?_ ?_
  · exact WL.v (hl w h) hd (WL.nil (WDs.next (WDs.op ho' hg' hr1 (hj2 (fun b w' h' => WL.nil (WDs.next (k b w' h')))))))
  · refine hj1 (fun b w' h' => WL.nil (WDs.next (WDs.op ho rfl hr2 (WL.v ((hl w' (h'.drop 0)).mono (evs_cons hf)) hd (WL.nil (WDs.next (WDs.swap hne ?_)))))))
    rw [Array.setIfInBounds_comm _ _ (Ne.symm hij)]
    exact k b w' h'
/-- the same, straight out of the part where the order does not matter -/
theorem WMs.both {C : World → Prop} {eff : Nat → Bool} {i j d d' : Nat} {op : Op} {o' : Oper} {R : Nat → Res} {f : Nat → Value} (hCs : ∀ w, C w → St W F cs w)
    (hr : Region.ready .any ops L = [i, j]) (hr1 : Region.ready .any ops (L.setIfInBounds i true) = [j]) (hr2 : Region.ready .any ops (L.setIfInBounds j true) = [i]) (he : eff i = false) (he' : eff j = true)
    (ho : ops[i]? = some { dst := some d, op := op, type := t, pos := pos, after := af, guard := none }) (ho' : ops[j]? = some o') (hg' : o'.guard = none)
    (hd : Nat.ble (d + 1) N = true) (hne : Nat.beq d d' = false) (hf : lk sl d' = none)
    (hl : ∀ w, St W F cs w → Runs P sl op t w v)
    (hj1 : ∀ {Z : Post} {ks : List Fr} {w : World}, St W F cs w → (∀ b w', St W F (R b :: cs) w' → WL P ops Z ks N D ((d', f b) :: sl) [] w') → WL P ops Z ks N D sl [o'] w)
    (hj2 : ∀ {Z : Post} {ks : List Fr} {w : World}, St W F cs w → (∀ b w', St W F (R b :: cs) w' → WL P ops Z ks N D ((d', f b) :: (d, v) :: sl) [] w') → WL P ops Z ks N D ((d, v) :: sl) [o'] w)
    (k : ∀ b w', St W F (R b :: cs) w' → WDs P ops Z ks N D ((d', f b) :: (d, v) :: sl) ((L.setIfInBounds i true).setIfInBounds j true) n w') :
    WMs P ops Z ks N D C eff sl L (n + 2) := by
  have hij : i ≠ j := by
    have hn : (Region.ready .any ops L).Nodup := List.Pairwise.sublist List.filter_sublist List.nodup_range
    rw [hr] at hn
    intro e
    subst e
    simp at hn
  intro a ha
  refine ⟨fun h0 => (by rw [hr] at h0; cases h0), fun x hx => ?_⟩
  rw [hr] at hx
  simp only [List.mem_cons, List.not_mem_nil, or_false] at hx
  rcases hx with rfl | rfl
  · rw [if_neg (by rw [he]; simp)]
    refine YieldsIn.qOp (v := v) ho (.inl ⟨wants rfl, fun w hC => ?_⟩) ?_
    · unfold Oper.quietAt
      rw [hl w (hCs w hC) a.eval (fun x v hx => ha.ev hx) _ rfl rfl]
      exact ⟨rfl, rfl⟩
    · exact M_eff hr1 he' fun w hC => wpOp_of_WL ho' hg' (hj2 (hCs w hC) (fun b w' h' => WL.nil (WDs.next (k b w' h')))) (ha.put (Nat.le_of_ble_eq_true hd) v)
  · rw [if_pos he']
    refine fun w hC => wpOp_of_WL ho' hg' (hj1 (hCs w hC) (fun b w' h' => WL.nil (WDs.next (WDs.op ho rfl hr2 (WL.v ((hl w' (h'.drop 0)).mono (evs_cons hf)) hd (WL.nil (WDs.next (WDs.swap hne ?_)))))))) ha
    rw [Array.setIfInBounds_comm _ _ (Ne.symm hij)]
    exact k b w' h'
end
end B
end Go.Proofs.Ytkfkdenikkadhaa
