/- Structs compared. Plain lemmas. -/
import Derived.Test.YtfiknofmniiehaaBaseW
import Derived.Laws.StructEq
namespace Go.Proofs.Ytfiknofmniiehaa
open Go Go.RowKit
set_option linter.unusedVariables false
set_option linter.unusedSimpArgs false
namespace B
section
variable {P : Program} {sl : Sl} {w : World} {t T T' : TypeId} {x y : Operand} {d : Nat} {xs ys : Array Value} {f : Field} {fs : List Field} {s : Bool}
theorem part1 {E : TypeId} {td : TypeDesc} {n : Nat} {u : Value} (hu : P.underlying E = some td) (hs : scal td = true) (hx : xs[n]? = some u) : (part E xs n).run P w = .ok u w := by
  have h4 : (isAgg E).run P w = .ok false w := by
    cases td <;> simp_all [isAgg, underlying, program, scal, Sem.run, bind, Sem.bind, pure]
  unfold part
  rw [Sem.run_bind, h4]
  simp [Result.andThen, hx, Sem.run, pure]
theorem eqf_1 {a b : Value} {r : Bool} {td : TypeDesc} (hn : (f.name == "_") = false) (hu : P.underlying f.type = some td) (hs : scal td = true) (ha : xs[f.offset]? = some a) (hb : ys[f.offset]? = some b) (he : (Op.equalIn d f.type a b).run P w = .ok r w) (hr : (Op.eqFields d xs ys fs).run P w = .ok s w) : (Op.eqFields d xs ys (f :: fs)).run P w = .ok (r && s) w := by
  have hn' : f.name ≠ "_" := by simpa using hn
  have h1 := part1 (w := w) hu hs ha
  have h2 := part1 (w := w) hu hs hb
  rw [Op.eqFields]
  simp only [if_pos hn', Sem.run_bind, h1, h2, he, Result.andThen_ok]
  cases r
  · simp
  · simpa using hr
theorem eqf_int {a b : Int} {k : IntKind} (hn : (f.name == "_") = false) (hu : P.underlying f.type = some (.int k)) (ha : xs[f.offset]? = some (.int k a)) (hb : ys[f.offset]? = some (.int k b)) (hr : (Op.eqFields (d + 1) xs ys fs).run P w = .ok s w) : (Op.eqFields (d + 1) xs ys (f :: fs)).run P w = .ok (decide (a = b) && s) w := by
  refine eqf_1 hn hu rfl ha hb ?_ hr
  simp [Op.equalIn, underlying, program, hu, Sem.run, bind, Sem.bind, pure, ibeq]
theorem eqf_str {a b : List UInt8} (hn : (f.name == "_") = false) (hu : P.underlying f.type = some .string) (ha : xs[f.offset]? = some (.string (bs a))) (hb : ys[f.offset]? = some (.string (bs b))) (hr : (Op.eqFields (d + 1) xs ys fs).run P w = .ok s w) : (Op.eqFields (d + 1) xs ys (f :: fs)).run P w = .ok (decide (a = b) && s) w := by
  refine eqf_1 hn hu rfl ha hb ?_ hr
  have : (bs a == bs b) = decide (a = b) := by
    rw [beq_toListBytes, seq_toList]
    rw [decide_eq_decide]; exact bs_inj
  simp [Op.equalIn, underlying, program, hu, Sem.run, bind, Sem.bind, pure, this]
theorem eqf_nil : (Op.eqFields d xs ys []).run P w = .ok true w := by simp [Op.eqFields]
theorem eqA_of {fs : Array Field} {r : Bool} (hu : P.underlying T = some (.struct fs)) (hp : P.stoodInHeld T = false) (h : (Op.eqFields d xs ys fs.toList).run P w = .ok r w) : (Op.equalIn (d + 1) T (.agg xs) (.agg ys)).run P w = .ok r w := by
  have hf : P.fieldsOf T = fs := by simp [Program.fieldsOf, hu]
  rw [run_equalIn_struct (P := P) w d T xs ys (by rw [hf]; exact hu) hp, hf]
  exact h
theorem Runs.aeql {r : Bool} (hm : P.eqGuardType P.depth T = false) (hx : evs sl x = some (.agg xs)) (hy : evs sl y = some (.agg ys)) (he : (Op.equalIn 10000 T (.agg xs) (.agg ys)).run P w = .ok r w) : Runs P sl (.binOp .eql T x y T') t w (.bool r) := fun ρ h o ho _ => by
  simp only [execOp, ho, h _ _ hx, h _ _ hy, Sem.run_bind, run_eqGuard_agg w .eql T x y xs ys hm, Result.andThen_ok, run_eql_struct, he]
  rfl
theorem Runs.aneq {r : Bool} (hm : P.eqGuardType P.depth T = false) (hx : evs sl x = some (.agg xs)) (hy : evs sl y = some (.agg ys)) (he : (Op.equalIn 10000 T (.agg xs) (.agg ys)).run P w = .ok r w) : Runs P sl (.binOp .neq T x y T') t w (.bool (!r)) := fun ρ h o ho _ => by
  simp only [execOp, ho, h _ _ hx, h _ _ hy, Sem.run_bind, run_eqGuard_agg w .neq T x y xs ys hm, Result.andThen_ok, run_neq_struct, he]
  rfl
end
end B
end Go.Proofs.Ytfiknofmniiehaa
