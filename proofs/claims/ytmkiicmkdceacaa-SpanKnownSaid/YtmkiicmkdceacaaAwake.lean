/- The examples that each law asks first answer true, in every world. No conditions. -/
import Derived.Test.YtmkiicmkdceacaaCount
namespace Go.Proofs.Ytmkiicmkdceacaa.Am
open Go.Proofs
set_option maxRecDepth 1000000
theorem runAwake : saysTrue (evF tbS 100000 9 [] LH.empty) = true := by kernel_rfl
theorem awake_calls (w : World) : Calls Try.prog 9 #[] w (fun e w' => e = .returned (.bool true) ∧ Go.RowKit.Below w.heap.size w w') := closed_true (by kernel_rfl) 100000 runAwake w
theorem awake_spec : ∀ g s, (if g = 9 then some (constS (.b true)) else countSpec g) = some s → ∀ (B : Nat) (W : World) (r : Rho) (w : World) (vs : List V) (h : LH) (v : V) (h' : LH), s vs h = some (v, h') → okL h.next vs → RelH Try.prog B W r h w →
    Calls Try.prog g (conL r vs).toArray w (fun e w' => ∃ u, e = .returned u ∧ Leaves Try.prog B W r h v h' u w') := fun g s hg => by
  split at hg
  · next e => injection hg with hg; subst hg; subst e; exact constS_ok (fun _ => trivial) (fun _ => rfl) awake_calls
  · exact countSpec_ok g s hg
/-- The tables, awake's answer being known. -/
noncomputable def tbA : Tb Try.prog := { tb with spec := fun g => if g = 9 then some (constS (.b true)) else countSpec g, specOk := awake_spec }
end Go.Proofs.Ytmkiicmkdceacaa.Am
