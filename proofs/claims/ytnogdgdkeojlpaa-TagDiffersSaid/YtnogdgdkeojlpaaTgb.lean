/- Functions of the pages, walked. Conditions: those of each theorem. -/
import Derived.Test.YtnogdgdkeojlpaaAm5
import Derived.Test.YtnogdgdkeojlpaaTga
import Derived.Test.YtnogdgdkeojlpaaTg7
namespace Go.Proofs.Ytnogdgdkeojlpaa.Am
open Go.Proofs
set_option maxRecDepth 1000000
set_option maxHeartbeats 4000000
set_option linter.unusedSimpArgs false
set_option linter.unusedVariables false
theorem awake_fm : FM Try.prog 8 [] [] (fun v M' => v = .b true ∧ M' = []) := FM.run (tb := tb) (by kernel_rfl) 100000 (by kernel_rfl)
theorem foldr_and {α : Type} (f : α → Bool) : ∀ l : List α, l.foldr (fun i r => f i && r) true = l.all f
  | [] => rfl
  | x :: l => by simp only [List.foldr_cons, List.all_cons, foldr_and f l]
def E32 (P Q : List Int) : Prop := ∀ i, i < 32 → P.getD i 0 = Q.getD i 0
instance (P Q : List Int) : Decidable (E32 P Q) := inferInstanceAs (Decidable (∀ i, i < 32 → P.getD i 0 = Q.getD i 0))
theorem e32_refl (P : List Int) : E32 P P := fun _ _ => rfl
theorem e32_eq {P Q : List Int} (hP : P.length = 32) (hQ : Q.length = 32) (h : E32 P Q) : P = Q := by
  apply List.ext_getElem (by omega)
  intro i h1 h2
  have := h i (by omega)
  rw [List.getD_eq_getElem?_getD, List.getD_eq_getElem?_getD, List.getElem?_eq_getElem h1, List.getElem?_eq_getElem h2] at this
  simpa using this
theorem e32_all (P Q : List Int) : (List.range 32).foldr (fun i r => (P.getD i 0 == Q.getD i 0) && r) true = decide (E32 P Q) := by
  rw [foldr_and]
  by_cases e : E32 P Q
  · rw [decide_eq_true e, List.all_eq_true]
    intro i hi
    rw [e i (List.mem_range.1 hi)]; exact beq_self_eq_true _
  · rw [decide_eq_false e]
    refine Bool.eq_false_iff.2 fun h2 => e fun i hi => ?_
    exact eq_of_beq (List.all_eq_true.1 h2 i (List.mem_range.2 hi))
theorem A32_eq (P Q : List Int) : eqB tb 100 28 (.agg (b32 P)) (.agg (b32 Q)) = decide (E32 P Q) := by
  have h : eqB tb 100 28 (.agg (b32 P)) (.agg (b32 Q)) = (List.range 32).foldr (fun i r => (P.getD i 0 == Q.getD i 0) && r) true := by kernel_rfl
  rw [h, e32_all]
theorem Page_eq (k a b c d e f k2 a2 b2 c2 d2 e2 f2 : Int) (P Q : List Int) : eqB tb 100 30 (.agg (pgV k a b c d e f P)) (.agg (pgV k2 a2 b2 c2 d2 e2 f2 Q)) = decide (k = k2 ∧ a = a2 ∧ b = b2 ∧ c = c2 ∧ d = d2 ∧ e = e2 ∧ f = f2 ∧ E32 P Q) := by
  have h : eqB tb 100 30 (.agg (pgV k a b c d e f P)) (.agg (pgV k2 a2 b2 c2 d2 e2 f2 Q)) = (k == k2 && (a == a2 && (b == b2 && (c == c2 && (d == d2 && (e == e2 && (f == f2 && ((List.range 32).foldr (fun i r => (P.getD i 0 == Q.getD i 0) && r) true && true)))))))) := by kernel_rfl
  rw [h, e32_all]
  simp [Bool.beq_eq_decide_eq]
end Go.Proofs.Ytnogdgdkeojlpaa.Am

