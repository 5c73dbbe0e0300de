/- What the machine asks of the program: its functions and its types, each row proved. No conditions. -/
import Derived.Test.YtjoocblinfnhgaaProg
import Derived.KernelRfl
import Derived.Test.YtjoocblinfnhgaaAm5
namespace Go.Proofs.Ytjoocblinfnhgaa.Am
open Go.Proofs
set_option maxRecDepth 100000
noncomputable def fnT : FuncId → Option Func
  | 2 => some Try.f2
  | 3 => some Try.f3
  | 4 => some Try.f4
  | 5 => some Try.f5
  | 6 => some Try.f6
  | 7 => some Try.f7
  | 8 => some Try.f8
  | 9 => some Try.f9
  | 10 => some Try.f10
  | 11 => some Try.f11
  | 12 => some Try.f12
  | 13 => some Try.f13
  | 14 => some Try.f14
  | 15 => some Try.f15
  | 16 => some Try.f16
  | _ => none
theorem fnT_ok : ∀ f F, fnT f = some F → Try.prog.funcs[f]? = some F ∧ (F.name == "runtime.NumGoroutine") = false ∧ F.body.isSome = true ∧ ∀ c, F.body = some c → codeB c = true := by
  intro f F h
  unfold fnT at h
  split at h
  · cases h; exact ⟨Try.func2, by kernel_rfl, by kernel_rfl, fun c hc => by cases hc; kernel_rfl⟩
  · cases h; exact ⟨Try.func3, by kernel_rfl, by kernel_rfl, fun c hc => by cases hc; kernel_rfl⟩
  · cases h; exact ⟨Try.func4, by kernel_rfl, by kernel_rfl, fun c hc => by cases hc; kernel_rfl⟩
  · cases h; exact ⟨Try.func5, by kernel_rfl, by kernel_rfl, fun c hc => by cases hc; kernel_rfl⟩
  · cases h; exact ⟨Try.func6, by kernel_rfl, by kernel_rfl, fun c hc => by cases hc; kernel_rfl⟩
  · cases h; exact ⟨Try.func7, by kernel_rfl, by kernel_rfl, fun c hc => by cases hc; kernel_rfl⟩
  · cases h; exact ⟨Try.func8, by kernel_rfl, by kernel_rfl, fun c hc => by cases hc; kernel_rfl⟩
  · cases h; exact ⟨Try.func9, by kernel_rfl, by kernel_rfl, fun c hc => by cases hc; kernel_rfl⟩
  · cases h; exact ⟨Try.func10, by kernel_rfl, by kernel_rfl, fun c hc => by cases hc; kernel_rfl⟩
  · cases h; exact ⟨Try.func11, by kernel_rfl, by kernel_rfl, fun c hc => by cases hc; kernel_rfl⟩
  · cases h; exact ⟨Try.func12, by kernel_rfl, by kernel_rfl, fun c hc => by cases hc; kernel_rfl⟩
  · cases h; exact ⟨Try.func13, by kernel_rfl, by kernel_rfl, fun c hc => by cases hc; kernel_rfl⟩
  · cases h; exact ⟨Try.func14, by kernel_rfl, by kernel_rfl, fun c hc => by cases hc; kernel_rfl⟩
  · cases h; exact ⟨Try.func15, by kernel_rfl, by kernel_rfl, fun c hc => by cases hc; kernel_rfl⟩
  · cases h; exact ⟨Try.func16, by kernel_rfl, by kernel_rfl, fun c hc => by cases hc; kernel_rfl⟩
  · cases h
def szT : TypeId → Option Nat
  | 0 => some 1
  | 1 => some 1
  | 2 => some 1
  | 3 => some 1
  | 4 => some 1
  | 5 => some 1
  | 6 => some 1
  | 7 => some 4
  | 8 => some 4
  | 9 => some 1
  | 10 => some 1
  | 11 => some 1
  | 12 => some 1
  | 13 => some 2
  | 14 => some 2
  | 15 => some 1
  | 16 => some 1
  | 17 => some 1
  | 18 => some 1
  | 19 => some 1
  | 20 => some 1
  | 21 => some 1
  | 22 => some 1
  | 23 => some 1
  | 24 => some 1
  | 25 => some 1
  | 26 => some 1
  | 27 => some 1
  | 28 => some 1
  | 29 => some 1
  | 30 => some 1
  | 31 => some 1
  | 32 => some 1
  | 33 => some 1
  | 34 => some 1
  | 35 => some 5
  | 36 => some 5
  | 37 => some 3
  | 38 => some 3
  | 39 => some 6
  | 40 => some 6
  | 41 => some 1
  | 42 => some 1
  | 43 => some 1
  | 44 => some 1
  | 45 => some 1
  | 46 => some 1
  | 47 => some 1
  | 48 => some 1
  | 49 => some 1
  | 50 => some 3
  | 51 => some 3
  | 52 => some 8
  | 53 => some 8
  | 54 => some 1
  | 55 => some 1
  | 56 => some 1
  | 57 => some 4
  | 58 => some 4
  | 59 => some 0
  | 60 => some 0
  | 61 => some 0
  | 62 => some 1
  | 63 => some 1
  | 64 => some 1
  | 65 => some 1
  | 66 => some 1
  | 67 => some 1
  | 68 => some 11
  | 69 => some 11
  | 70 => some 1
  | _ => none
theorem szT_ok : ∀ t n, szT t = some n → (Try.prog.info? t).map (·.size) = some n := by
  intro t n h
  unfold szT at h
  split at h
  case _ => cases h; kernel_rfl
  all_goals (first | (cases h; kernel_rfl) | (cases h; done))
def byT : TypeId → Option Nat
  | 0 => some 0
  | 1 => some 8
  | 2 => some 8
  | 3 => some 8
  | 4 => some 1
  | 5 => some 1
  | 6 => some 1
  | 7 => some 24
  | 8 => some 24
  | 9 => some 16
  | 10 => some 16
  | 11 => some 16
  | 12 => some 8
  | 13 => some 24
  | 14 => some 24
  | 15 => some 8
  | 16 => some 8
  | 17 => some 8
  | 18 => some 8
  | 19 => some 8
  | 20 => some 16
  | 21 => some 4
  | 22 => some 8
  | 23 => some 8
  | 24 => some 8
  | 25 => some 0
  | 26 => some 8
  | 27 => some 4
  | 28 => some 0
  | 29 => some 8
  | 30 => some 8
  | 31 => some 24
  | 32 => some 24
  | 33 => some 24
  | 34 => some 24
  | 35 => some 40
  | 36 => some 40
  | 37 => some 24
  | 38 => some 24
  | 39 => some 40
  | 40 => some 40
  | 41 => some 8
  | 42 => some 0
  | 43 => some 8
  | 44 => some 8
  | 45 => some 8
  | 46 => some 8
  | 47 => some 8
  | 48 => some 8
  | 49 => some 24
  | 50 => some 40
  | 51 => some 40
  | 52 => some 48
  | 53 => some 48
  | 54 => some 8
  | 55 => some 8
  | 56 => some 8
  | 57 => some 40
  | 58 => some 40
  | 59 => some 0
  | 60 => some 0
  | 61 => some 0
  | 62 => some 1
  | 63 => some 1
  | 64 => some 8
  | 65 => some 8
  | 66 => some 4
  | 67 => some 4
  | 68 => some 48
  | 69 => some 48
  | 70 => some 8
  | _ => none
theorem byT_ok : ∀ t n, byT t = some n → (Try.prog.info? t).map (·.bytes) = some n := by
  intro t n h
  unfold byT at h
  split at h
  case _ => cases h; kernel_rfl
  all_goals (first | (cases h; kernel_rfl) | (cases h; done))
noncomputable def tb : Tb Try.prog where
  und := Try.prog.underlying
  sz := szT
  bytes := byT
  zero := fun t => ((Try.prog.info? t).bind (·.zero)).bind ofValue
  fn := fnT
  meth := fun _ _ => none
  loud := fun _ => false
  cnt := fun _ => false
  spec := fun _ => none
  undOk := fun _ _ h => h
  szOk := szT_ok
  bytesOk := byT_ok
  zeroOk := fun _ _ h => h
  fnOk := fnT_ok
  methOk := fun _ _ _ _ _ h => by cases h
  cntOk := fun _ _ _ h => by cases h
  specOk := fun _ _ h => by cases h

end Go.Proofs.Ytjoocblinfnhgaa.Am
