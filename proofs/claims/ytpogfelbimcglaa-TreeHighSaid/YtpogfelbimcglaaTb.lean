/- What the machine asks of the program: its functions and its types, each row proved. No conditions. -/
import Derived.Test.YtpogfelbimcglaaProg
import Derived.KernelRfl
import Derived.Test.YtpogfelbimcglaaAm5
namespace Go.Proofs.Ytpogfelbimcglaa.Am
open Go.Proofs
set_option maxRecDepth 100000
noncomputable def fnT : FuncId → Option Func
  | 2 => some Try.f2
  | 3 => some Try.f3
  | 4 => some Try.f4
  | 5 => some Try.f5
  | 6 => some Try.f6
  | 7 => some Try.f7
  | 8 => some Try.f8
  | 9 => some Try.f9
  | 10 => some Try.f10
  | 11 => some Try.f11
  | 12 => some Try.f12
  | 13 => some Try.f13
  | 14 => some Try.f14
  | 15 => some Try.f15
  | 16 => some Try.f16
  | 17 => some Try.f17
  | 18 => some Try.f18
  | 19 => some Try.f19
  | 20 => some Try.f20
  | 21 => some Try.f21
  | 22 => some Try.f22
  | 23 => some Try.f23
  | 24 => some Try.f24
  | 25 => some Try.f25
  | 26 => some Try.f26
  | 27 => some Try.f27
  | 28 => some Try.f28
  | 29 => some Try.f29
  | 30 => some Try.f30
  | 31 => some Try.f31
  | 32 => some Try.f32
  | 33 => some Try.f33
  | 34 => some Try.f34
  | 35 => some Try.f35
  | 36 => some Try.f36
  | 37 => some Try.f37
  | 38 => some Try.f38
  | 39 => some Try.f39
  | 40 => some Try.f40
  | 41 => some Try.f41
  | 42 => some Try.f42
  | 43 => some Try.f43
  | 44 => some Try.f44
  | 45 => some Try.f45
  | _ => none
theorem fnT_ok : ∀ f F, fnT f = some F → Try.prog.funcs[f]? = some F ∧ (F.name == "runtime.NumGoroutine") = false ∧ F.body.isSome = true ∧ ∀ c, F.body = some c → codeB c = true := by
  intro f F h
  unfold fnT at h
  split at h
  · cases h; exact ⟨Try.func2, by kernel_rfl, by kernel_rfl, fun c hc => by cases hc; kernel_rfl⟩
  · cases h; exact ⟨Try.func3, by kernel_rfl, by kernel_rfl, fun c hc => by cases hc; kernel_rfl⟩
  · cases h; exact ⟨Try.func4, by kernel_rfl, by kernel_rfl, fun c hc => by cases hc; kernel_rfl⟩
  · cases h; exact ⟨Try.func5, by kernel_rfl, by kernel_rfl, fun c hc => by cases hc; kernel_rfl⟩
  · cases h; exact ⟨Try.func6, by kernel_rfl, by kernel_rfl, fun c hc => by cases hc; kernel_rfl⟩
  · cases h; exact ⟨Try.func7, by kernel_rfl, by kernel_rfl, fun c hc => by cases hc; kernel_rfl⟩
  · cases h; exact ⟨Try.func8, by kernel_rfl, by kernel_rfl, fun c hc => by cases hc; kernel_rfl⟩
  · cases h; exact ⟨Try.func9, by kernel_rfl, by kernel_rfl, fun c hc => by cases hc; kernel_rfl⟩
  · cases h; exact ⟨Try.func10, by kernel_rfl, by kernel_rfl, fun c hc => by cases hc; kernel_rfl⟩
  · cases h; exact ⟨Try.func11, by kernel_rfl, by kernel_rfl, fun c hc => by cases hc; kernel_rfl⟩
  · cases h; exact ⟨Try.func12, by kernel_rfl, by kernel_rfl, fun c hc => by cases hc; kernel_rfl⟩
  · cases h; exact ⟨Try.func13, by kernel_rfl, by kernel_rfl, fun c hc => by cases hc; kernel_rfl⟩
  · cases h; exact ⟨Try.func14, by kernel_rfl, by kernel_rfl, fun c hc => by cases hc; kernel_rfl⟩
  · cases h; exact ⟨Try.func15, by kernel_rfl, by kernel_rfl, fun c hc => by cases hc; kernel_rfl⟩
  · cases h; exact ⟨Try.func16, by kernel_rfl, by kernel_rfl, fun c hc => by cases hc; kernel_rfl⟩
  · cases h; exact ⟨Try.func17, by kernel_rfl, by kernel_rfl, fun c hc => by cases hc; kernel_rfl⟩
  · cases h; exact ⟨Try.func18, by kernel_rfl, by kernel_rfl, fun c hc => by cases hc; kernel_rfl⟩
  · cases h; exact ⟨Try.func19, by kernel_rfl, by kernel_rfl, fun c hc => by cases hc; kernel_rfl⟩
  · cases h; exact ⟨Try.func20, by kernel_rfl, by kernel_rfl, fun c hc => by cases hc; kernel_rfl⟩
  · cases h; exact ⟨Try.func21, by kernel_rfl, by kernel_rfl, fun c hc => by cases hc; kernel_rfl⟩
  · cases h; exact ⟨Try.func22, by kernel_rfl, by kernel_rfl, fun c hc => by cases hc; kernel_rfl⟩
  · cases h; exact ⟨Try.func23, by kernel_rfl, by kernel_rfl, fun c hc => by cases hc; kernel_rfl⟩
  · cases h; exact ⟨Try.func24, by kernel_rfl, by kernel_rfl, fun c hc => by cases hc; kernel_rfl⟩
  · cases h; exact ⟨Try.func25, by kernel_rfl, by kernel_rfl, fun c hc => by cases hc; kernel_rfl⟩
  · cases h; exact ⟨Try.func26, by kernel_rfl, by kernel_rfl, fun c hc => by cases hc; kernel_rfl⟩
  · cases h; exact ⟨Try.func27, by kernel_rfl, by kernel_rfl, fun c hc => by cases hc; kernel_rfl⟩
  · cases h; exact ⟨Try.func28, by kernel_rfl, by kernel_rfl, fun c hc => by cases hc; kernel_rfl⟩
  · cases h; exact ⟨Try.func29, by kernel_rfl, by kernel_rfl, fun c hc => by cases hc; kernel_rfl⟩
  · cases h; exact ⟨Try.func30, by kernel_rfl, by kernel_rfl, fun c hc => by cases hc; kernel_rfl⟩
  · cases h; exact ⟨Try.func31, by kernel_rfl, by kernel_rfl, fun c hc => by cases hc; kernel_rfl⟩
  · cases h; exact ⟨Try.func32, by kernel_rfl, by kernel_rfl, fun c hc => by cases hc; kernel_rfl⟩
  · cases h; exact ⟨Try.func33, by kernel_rfl, by kernel_rfl, fun c hc => by cases hc; kernel_rfl⟩
  · cases h; exact ⟨Try.func34, by kernel_rfl, by kernel_rfl, fun c hc => by cases hc; kernel_rfl⟩
  · cases h; exact ⟨Try.func35, by kernel_rfl, by kernel_rfl, fun c hc => by cases hc; kernel_rfl⟩
  · cases h; exact ⟨Try.func36, by kernel_rfl, by kernel_rfl, fun c hc => by cases hc; kernel_rfl⟩
  · cases h; exact ⟨Try.func37, by kernel_rfl, by kernel_rfl, fun c hc => by cases hc; kernel_rfl⟩
  · cases h; exact ⟨Try.func38, by kernel_rfl, by kernel_rfl, fun c hc => by cases hc; kernel_rfl⟩
  · cases h; exact ⟨Try.func39, by kernel_rfl, by kernel_rfl, fun c hc => by cases hc; kernel_rfl⟩
  · cases h; exact ⟨Try.func40, by kernel_rfl, by kernel_rfl, fun c hc => by cases hc; kernel_rfl⟩
  · cases h; exact ⟨Try.func41, by kernel_rfl, by kernel_rfl, fun c hc => by cases hc; kernel_rfl⟩
  · cases h; exact ⟨Try.func42, by kernel_rfl, by kernel_rfl, fun c hc => by cases hc; kernel_rfl⟩
  · cases h; exact ⟨Try.func43, by kernel_rfl, by kernel_rfl, fun c hc => by cases hc; kernel_rfl⟩
  · cases h; exact ⟨Try.func44, by kernel_rfl, by kernel_rfl, fun c hc => by cases hc; kernel_rfl⟩
  · cases h; exact ⟨Try.func45, by kernel_rfl, by kernel_rfl, fun c hc => by cases hc; kernel_rfl⟩
  · cases h
def szT : TypeId → Option Nat
  | 0 => some 1
  | 1 => some 1
  | 2 => some 1
  | 3 => some 1
  | 4 => some 1
  | 5 => some 1
  | 6 => some 1
  | 7 => some 4
  | 8 => some 4
  | 9 => some 1
  | 10 => some 1
  | 11 => some 1
  | 12 => some 1
  | 13 => some 2
  | 14 => some 2
  | 15 => some 1
  | 16 => some 1
  | 17 => some 1
  | 18 => some 1
  | 19 => some 1
  | 20 => some 1
  | 21 => some 1
  | 22 => some 1
  | 23 => some 1
  | 24 => some 1
  | 25 => some 1
  | 26 => some 1
  | 27 => some 1
  | 28 => some 1
  | 29 => some 1
  | 30 => some 3
  | 31 => some 3
  | 32 => some 1
  | 33 => some 1
  | 34 => some 1
  | 35 => some 1
  | 36 => some 1
  | 37 => some 1
  | 38 => some 1
  | 39 => some 1
  | 40 => some 1
  | 41 => some 4
  | 42 => some 4
  | 43 => some 1
  | 44 => some 1
  | 45 => some 1
  | 46 => some 1
  | 47 => some 1
  | 48 => some 1
  | 49 => some 1
  | 50 => some 1
  | 51 => some 1
  | 52 => some 1
  | 53 => some 7
  | 54 => some 7
  | 55 => some 1
  | 56 => some 1
  | 57 => some 1
  | 58 => some 1
  | 59 => some 3
  | 60 => some 3
  | 61 => some 6
  | 62 => some 6
  | 63 => some 8
  | 64 => some 8
  | 65 => some 3
  | 66 => some 3
  | 67 => some 1
  | 68 => some 1
  | 69 => some 1
  | 70 => some 1
  | 71 => some 1
  | 72 => some 1
  | 73 => some 1
  | 74 => some 1
  | 75 => some 1
  | 76 => some 1
  | 77 => some 1
  | 78 => some 1
  | 79 => some 1
  | 80 => some 1
  | 81 => some 1
  | 82 => some 1
  | 83 => some 1
  | 84 => some 1
  | 85 => some 1
  | 86 => some 1
  | 87 => some 1
  | 88 => some 4
  | 89 => some 4
  | 90 => some 0
  | 91 => some 0
  | 92 => some 0
  | 93 => some 1
  | 94 => some 1
  | 95 => some 1
  | 96 => some 1
  | 97 => some 1
  | 98 => some 1
  | 99 => some 11
  | 100 => some 11
  | 101 => some 1
  | _ => none
theorem szT_ok : ∀ t n, szT t = some n → (Try.prog.info? t).map (·.size) = some n := by
  intro t n h
  unfold szT at h
  split at h
  case _ => cases h; kernel_rfl
  all_goals (first | (cases h; kernel_rfl) | (cases h; done))
def byT : TypeId → Option Nat
  | 0 => some 0
  | 1 => some 8
  | 2 => some 8
  | 3 => some 8
  | 4 => some 1
  | 5 => some 1
  | 6 => some 1
  | 7 => some 24
  | 8 => some 24
  | 9 => some 16
  | 10 => some 16
  | 11 => some 16
  | 12 => some 8
  | 13 => some 24
  | 14 => some 24
  | 15 => some 8
  | 16 => some 8
  | 17 => some 8
  | 18 => some 8
  | 19 => some 8
  | 20 => some 16
  | 21 => some 4
  | 22 => some 8
  | 23 => some 8
  | 24 => some 8
  | 25 => some 0
  | 26 => some 8
  | 27 => some 8
  | 28 => some 8
  | 29 => some 8
  | 30 => some 24
  | 31 => some 24
  | 32 => some 8
  | 33 => some 0
  | 34 => some 8
  | 35 => some 8
  | 36 => some 8
  | 37 => some 4
  | 38 => some 8
  | 39 => some 24
  | 40 => some 24
  | 41 => some 32
  | 42 => some 32
  | 43 => some 8
  | 44 => some 8
  | 45 => some 8
  | 46 => some 8
  | 47 => some 8
  | 48 => some 24
  | 49 => some 8
  | 50 => some 8
  | 51 => some 24
  | 52 => some 8
  | 53 => some 48
  | 54 => some 48
  | 55 => some 24
  | 56 => some 8
  | 57 => some 8
  | 58 => some 24
  | 59 => some 40
  | 60 => some 40
  | 61 => some 40
  | 62 => some 40
  | 63 => some 48
  | 64 => some 48
  | 65 => some 24
  | 66 => some 24
  | 67 => some 0
  | 68 => some 8
  | 69 => some 8
  | 70 => some 8
  | 71 => some 8
  | 72 => some 8
  | 73 => some 8
  | 74 => some 8
  | 75 => some 0
  | 76 => some 8
  | 77 => some 8
  | 78 => some 8
  | 79 => some 8
  | 80 => some 8
  | 81 => some 8
  | 82 => some 0
  | 83 => some 8
  | 84 => some 8
  | 85 => some 8
  | 86 => some 8
  | 87 => some 8
  | 88 => some 40
  | 89 => some 40
  | 90 => some 0
  | 91 => some 0
  | 92 => some 0
  | 93 => some 1
  | 94 => some 1
  | 95 => some 8
  | 96 => some 8
  | 97 => some 4
  | 98 => some 4
  | 99 => some 48
  | 100 => some 48
  | 101 => some 8
  | _ => none
theorem byT_ok : ∀ t n, byT t = some n → (Try.prog.info? t).map (·.bytes) = some n := by
  intro t n h
  unfold byT at h
  split at h
  case _ => cases h; kernel_rfl
  all_goals (first | (cases h; kernel_rfl) | (cases h; done))
noncomputable def tb : Tb Try.prog where
  und := Try.prog.underlying
  sz := szT
  bytes := byT
  zero := fun t => ((Try.prog.info? t).bind (·.zero)).bind ofValue
  fn := fnT
  meth := fun _ _ => none
  loud := fun _ => false
  cnt := fun _ => false
  spec := fun _ => none
  undOk := fun _ _ h => h
  szOk := szT_ok
  bytesOk := byT_ok
  zeroOk := fun _ _ h => h
  fnOk := fnT_ok
  methOk := fun _ _ _ _ _ h => by cases h
  cntOk := fun _ _ _ h => by cases h
  specOk := fun _ _ h => by cases h

end Go.Proofs.Ytpogfelbimcglaa.Am
