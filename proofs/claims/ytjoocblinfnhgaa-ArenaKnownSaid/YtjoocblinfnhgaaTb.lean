/- What the machine asks of the program: its functions and its types, each row proved. No conditions. -/
import Derived.Test.YtjoocblinfnhgaaProg
import Derived.KernelRfl
import Derived.Test.YtjoocblinfnhgaaAm3
namespace Go.Proofs.Ytjoocblinfnhgaa.Am
open Go.Proofs
set_option maxRecDepth 100000
noncomputable def fnT : FuncId → Option Func
  | 2 => some Try.f2
  | 3 => some Try.f3
  | 4 => some Try.f4
  | 5 => some Try.f5
  | 6 => some Try.f6
  | 7 => some Try.f7
  | 8 => some Try.f8
  | 9 => some Try.f9
  | 10 => some Try.f10
  | 11 => some Try.f11
  | 12 => some Try.f12
  | 13 => some Try.f13
  | 14 => some Try.f14
  | 15 => some Try.f15
  | 16 => some Try.f16
  | _ => none
theorem fnT_ok : ∀ f F, fnT f = some F → Try.prog.funcs[f]? = some F ∧ (F.name == "runtime.NumGoroutine") = false ∧ F.body.isSome = true ∧ ∀ c, F.body = some c → codeB c = true := by
  intro f F h
  unfold fnT at h
  split at h
  · cases h; exact ⟨Try.func2, by kernel_rfl, by kernel_rfl, fun c hc => by cases hc; kernel_rfl⟩
  · cases h; exact ⟨Try.func3, by kernel_rfl, by kernel_rfl, fun c hc => by cases hc; kernel_rfl⟩
  · cases h; exact ⟨Try.func4, by kernel_rfl, by kernel_rfl, fun c hc => by cases hc; kernel_rfl⟩
  · cases h; exact ⟨Try.func5, by kernel_rfl, by kernel_rfl, fun c hc => by cases hc; kernel_rfl⟩
  · cases h; exact ⟨Try.func6, by kernel_rfl, by kernel_rfl, fun c hc => by cases hc; kernel_rfl⟩
  · cases h; exact ⟨Try.func7, by kernel_rfl, by kernel_rfl, fun c hc => by cases hc; kernel_rfl⟩
  · cases h; exact ⟨Try.func8, by kernel_rfl, by kernel_rfl, fun c hc => by cases hc; kernel_rfl⟩
  · cases h; exact ⟨Try.func9, by kernel_rfl, by kernel_rfl, fun c hc => by cases hc; kernel_rfl⟩
  · cases h; exact ⟨Try.func10, by kernel_rfl, by kernel_rfl, fun c hc => by cases hc; kernel_rfl⟩
  · cases h; exact ⟨Try.func11, by kernel_rfl, by kernel_rfl, fun c hc => by cases hc; kernel_rfl⟩
  · cases h; exact ⟨Try.func12, by kernel_rfl, by kernel_rfl, fun c hc => by cases hc; kernel_rfl⟩
  · cases h; exact ⟨Try.func13, by kernel_rfl, by kernel_rfl, fun c hc => by cases hc; kernel_rfl⟩
  · cases h; exact ⟨Try.func14, by kernel_rfl, by kernel_rfl, fun c hc => by cases hc; kernel_rfl⟩
  · cases h; exact ⟨Try.func15, by kernel_rfl, by kernel_rfl, fun c hc => by cases hc; kernel_rfl⟩
  · cases h; exact ⟨Try.func16, by kernel_rfl, by kernel_rfl, fun c hc => by cases hc; kernel_rfl⟩
  · cases h
noncomputable def tb : Tb Try.prog where
  und := Try.prog.underlying
  sz := fun t => (Try.prog.info? t).map (·.size)
  bytes := fun t => (Try.prog.info? t).map (·.bytes)
  zero := fun t => ((Try.prog.info? t).bind (·.zero)).bind ofValue
  fn := fnT
  meth := fun _ _ => none
  loud := fun _ => false
  undOk := fun _ _ h => h
  szOk := fun _ _ h => h
  bytesOk := fun _ _ h => h
  zeroOk := fun _ _ h => h
  fnOk := fnT_ok
  methOk := fun _ _ _ _ _ h => by cases h

end Go.Proofs.Ytjoocblinfnhgaa.Am
