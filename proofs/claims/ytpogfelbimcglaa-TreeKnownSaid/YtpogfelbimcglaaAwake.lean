/- The examples that each law asks first answer true, in every world. No conditions. -/
import Derived.Test.YtpogfelbimcglaaTb
namespace Go.Proofs.Ytpogfelbimcglaa.Am
open Go.Proofs
set_option maxRecDepth 1000000
theorem runAwake : saysTrue (evF tb 100000 7 [] LH.empty) = true := by kernel_rfl
theorem awake_calls (w : World) : Calls Try.prog 7 #[] w (fun e w' => e = .returned (.bool true) ∧ Go.RowKit.Below w.heap.size w w') := closed_true (by kernel_rfl) 100000 runAwake w
theorem awake_known : ∀ g v, (if g = 7 then some (V.b true) else none) = some v → (∀ n, okV n v) ∧ ∃ c, (∀ r, con r v = c) ∧ ∀ w, Calls Try.prog g #[] w (fun e w' => e = .returned c ∧ Go.RowKit.Below w.heap.size w w') := fun g v h => by
  split at h
  · next e => injection h with h; subst h; subst e; exact ⟨fun _ => trivial, .bool true, fun _ => rfl, awake_calls⟩
  · cases h
/-- The tables, awake's answer being known. -/
noncomputable def tbA : Tb Try.prog := { tb with known := fun g => if g = 7 then some (.b true) else none, knownOk := awake_known }
end Go.Proofs.Ytpogfelbimcglaa.Am
