/- Tallies as plain lists, and the maps that hold them. -/
import Derived.Test.YtkgmlngmojnpmaaBaseM
namespace Go.Proofs.Ytkgmlngmojnpmaa
open Go Go.RowKit
set_option linter.unusedVariables false
namespace Tal
open B
abbrev Vi (n : Int) : Value := .int .i64 n
variable {α : Type}
def PO (f : α → Value) (F : Snap) (v : Value) : Option α → Prop
  | none => v = .pointer none
  | some x => ∃ a, v = .pointer (some a) ∧ cellF F a = some (f x)
def MR (f : α → Value) (F : Snap) : List Int → List (Option α) → List (Int × Value) → Prop
  | [], [], [] => True
  | n :: ns, o :: os, p :: l => p.1 = n ∧ PO f F p.2 o ∧ MR f F ns os l
  | _, _, _ => False
def look (n : Int) : List Int → List (Option α) → Option (Option α)
  | m :: ns, o :: os => if n = m then some o else look n ns os
  | _, _ => none
def put (n : Int) (x : α) : List Int → List (Option α) → List (Option α)
  | m :: ns, o :: os => if n = m then some x :: os else o :: put n x ns os
  | _, os => os
def miss : List Int → List (Option α) → List Int
  | n :: ns, o :: os => if o.isNone then n :: miss ns os else miss ns os
  | _, _ => []
theorem PO.mono {f : α → Value} {F G : Snap} (hle : Le F G) {v : Value} : ∀ {o : Option α}, PO f F v o → PO f G v o
  | none, h => h
  | some _, ⟨a, h1, h2⟩ => ⟨a, h1, cellF_le hle h2⟩
theorem PO.ptr {f : α → Value} {F : Snap} {v : Value} : ∀ {o : Option α}, PO f F v o → ∃ p, v = .pointer p ∧ p.isSome = o.isSome
  | none, h => ⟨none, h, rfl⟩
  | some _, ⟨a, h1, _⟩ => ⟨some a, h1, rfl⟩
theorem MR.mono {f : α → Value} {F G : Snap} (hle : Le F G) : ∀ {ns : List Int} {os : List (Option α)} {l : List (Int × Value)}, MR f F ns os l → MR f G ns os l
  | [], [], [], _ => trivial
  | _ :: _, _ :: _, _ :: _, ⟨h1, h2, h3⟩ => ⟨h1, h2.mono hle, MR.mono hle h3⟩
theorem MR.len {f : α → Value} {F : Snap} : ∀ {ns : List Int} {os : List (Option α)} {l : List (Int × Value)}, MR f F ns os l → os.length = ns.length ∧ l.length = ns.length
  | [], [], [], _ => ⟨rfl, rfl⟩
  | _ :: _, _ :: _, _ :: _, ⟨_, _, h3⟩ => by obtain ⟨h4, h5⟩ := h3.len; simp [h4, h5]
theorem MR.at_ {f : α → Value} {F : Snap} : ∀ {ns : List Int} {os : List (Option α)} {l : List (Int × Value)} {p : Nat} {kv : Int × Value}, MR f F ns os l → l[p]? = some kv → ∃ o, os[p]? = some o ∧ PO f F kv.2 o
  | _ :: _, _ :: _, _ :: _, 0, _, ⟨_, h2, _⟩, e => by simp only [List.getElem?_cons_zero, Option.some.injEq] at e; subst e; exact ⟨_, rfl, h2⟩
  | _ :: _, _ :: _, _ :: _, p + 1, kv, ⟨_, _, h3⟩, e => by
    simp only [List.getElem?_cons_succ] at e
    obtain ⟨o, h4, h5⟩ := h3.at_ e
    exact ⟨o, by simpa using h4, h5⟩
  | [], [], [], _, _, _, e => by simp at e
theorem MR.find {f : α → Value} {F : Snap} (n : Int) : ∀ {ns : List Int} {os : List (Option α)} {l : List (Int × Value)} (j : Nat), MR f F ns os l → (look n ns os = none ∧ mfind n l j = none) ∨ ∃ o i v, look n ns os = some o ∧ mfind n l j = some (i, v) ∧ PO f F v o
  | [], [], [], _, _ => .inl ⟨rfl, rfl⟩
  | m :: ns, o :: os, p :: l, j, ⟨h1, h2, h3⟩ => by
    unfold look mfind
    rw [h1]
    by_cases e : n = m
    · rw [if_pos e, if_pos e]
      exact .inr ⟨o, j, p.2, rfl, rfl, h2⟩
    · rw [if_neg e, if_neg e]
      exact MR.find n (j + 1) h3
theorem MR.put {f : α → Value} {F : Snap} {n : Int} {x : α} {v : Value} (hv : PO f F v (some x)) : ∀ {ns : List Int} {os : List (Option α)} {l : List (Int × Value)}, MR f F ns os l → (look n ns os).isSome = true → MR f F ns (put n x ns os) (mset n v l)
  | [], [], [], _, h => by simp [look] at h
  | m :: ns, o :: os, p :: l, ⟨h1, h2, h3⟩, h => by
    unfold look at h
    unfold Tal.put mset
    rw [h1]
    by_cases e : n = m
    · rw [if_pos e, if_pos e]
      exact ⟨e, hv, h3⟩
    · rw [if_neg e] at h
      rw [if_neg e, if_neg e]
      exact ⟨h1, h2, h3.put hv h⟩
theorem MR.snoc {f : α → Value} {F : Snap} {n : Int} {o : Option α} {v : Value} (hv : PO f F v o) : ∀ {ns : List Int} {os : List (Option α)} {l : List (Int × Value)}, MR f F ns os l → n ∉ ns → MR f F (ns ++ [n]) (os ++ [o]) (mset n v l)
  | [], [], [], _, _ => ⟨rfl, hv, trivial⟩
  | m :: ns, o' :: os, p :: l, ⟨h1, h2, h3⟩, h => by
    simp only [List.mem_cons, not_or] at h
    unfold mset
    rw [h1, if_neg h.1]
    exact ⟨h1, h2, h3.snoc hv h.2⟩
theorem look_mem (n : Int) : ∀ {ns : List Int} {os : List (Option α)}, os.length = ns.length → n ∈ ns → ∃ o, look n ns os = some o
  | m :: ns, o :: os, hl, h => by
    unfold look
    by_cases e : n = m
    · exact ⟨o, if_pos e⟩
    · rw [if_neg e]
      exact look_mem n (by simpa using hl) (by simpa [e] using h)
theorem miss_filter : ∀ {ns : List Int} {os : List (Option α)}, os.length = ns.length → ns.Nodup → ns.filter (fun n => !((look n ns os).getD none).isSome) = miss ns os
  | [], [], _, _ => rfl
  | m :: ns, o :: os, hl, hd => by
    have hd' := List.nodup_cons.1 hd
    have e1 : ns.filter (fun n => !((look n (m :: ns) (o :: os)).getD none).isSome) = ns.filter (fun n => !((look n ns os).getD none).isSome) := by
      apply List.filter_congr
      intro x hx
      have : x ≠ m := fun e => hd'.1 (e ▸ hx)
      simp [look, this]
    rw [List.filter_cons, e1, miss_filter (by simpa using hl) hd'.2]
    simp only [look, if_true, Option.getD_some, miss]
    cases o <;> simp
theorem miss_none : ∀ {ns : List Int} {os : List (Option α)}, os.length = ns.length → (miss ns os = [] ↔ ∀ o ∈ os, o.isSome = true)
  | [], [], _ => by simp [miss]
  | n :: ns, o :: os, hl => by
    unfold miss
    have := miss_none (ns := ns) (os := os) (by simpa using hl)
    cases o <;> simp [this]
/-! a tally -/
structure T where
  ns : List Int
  vs : List (Option Bool)
  cs : List (Option Int)
def T.state (t : T) : Int := if some false ∈ t.vs then 2 else if (miss t.ns t.vs).length > 0 then 0 else if (miss t.ns t.cs).length > 0 then 1 else 3
def say [DecidableEq α] (ns : List Int) (os : List (Option α)) (n : Int) (x : α) (may : Bool) : Int × List (Option α) :=
  match look n ns os with
  | none => (1, os)
  | some (some y) => if y = x then (0, os) else (14, os)
  | some none => if may then (0, put n x ns os) else (14, os)
def T.vote (t : T) (n : Int) (b : Bool) : Int × T := ((say t.ns t.vs n b (decide (t.state = 0))).1, { t with vs := (say t.ns t.vs n b (decide (t.state = 0))).2 })
def T.exit (t : T) (n c : Int) : Int × T := if c < 0 ∨ 255 < c then (1, t) else ((say t.ns t.cs n c (decide (t.state = 1))).1, { t with cs := (say t.ns t.cs n c (decide (t.state = 1))).2 })
def worst : List Int → Int
  | [] => 0
  | a :: l => l.foldl max a
def T.code (t : T) : Int := if t.state ≠ 3 then 0 else worst (t.cs.map (·.getD 0))
def T.missing (t : T) : List Int := if t.state = 0 then miss t.ns t.vs else if t.state = 1 then miss t.ns t.cs else []
end Tal
end Go.Proofs.Ytkgmlngmojnpmaa
