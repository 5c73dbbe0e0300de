/- What the machine asks of the program: its functions and its types, each row proved. No conditions. -/
import Derived.Test.YthhmapgolnkjcaaProg
import Derived.KernelRfl
import Derived.Test.YthhmapgolnkjcaaAm3
namespace Go.Proofs.Ythhmapgolnkjcaa.Am
open Go.Proofs
set_option maxRecDepth 100000
noncomputable def fnT : FuncId → Option Func
  | 2 => some Try.f2
  | 3 => some Try.f3
  | 4 => some Try.f4
  | 5 => some Try.f5
  | 6 => some Try.f6
  | 7 => some Try.f7
  | 8 => some Try.f8
  | 9 => some Try.f9
  | 10 => some Try.f10
  | 11 => some Try.f11
  | 12 => some Try.f12
  | 13 => some Try.f13
  | 14 => some Try.f14
  | 15 => some Try.f15
  | 16 => some Try.f16
  | 17 => some Try.f17
  | 18 => some Try.f18
  | 19 => some Try.f19
  | 20 => some Try.f20
  | 21 => some Try.f21
  | 22 => some Try.f22
  | 23 => some Try.f23
  | 24 => some Try.f24
  | 25 => some Try.f25
  | 26 => some Try.f26
  | 27 => some Try.f27
  | 28 => some Try.f28
  | 29 => some Try.f29
  | 30 => some Try.f30
  | 31 => some Try.f31
  | 32 => some Try.f32
  | 33 => some Try.f33
  | 34 => some Try.f34
  | 35 => some Try.f35
  | 36 => some Try.f36
  | 37 => some Try.f37
  | 38 => some Try.f38
  | 39 => some Try.f39
  | 40 => some Try.f40
  | 41 => some Try.f41
  | 42 => some Try.f42
  | 43 => some Try.f43
  | 44 => some Try.f44
  | 45 => some Try.f45
  | 46 => some Try.f46
  | 47 => some Try.f47
  | 48 => some Try.f48
  | 49 => some Try.f49
  | 50 => some Try.f50
  | 51 => some Try.f51
  | 52 => some Try.f52
  | 53 => some Try.f53
  | 54 => some Try.f54
  | 55 => some Try.f55
  | 56 => some Try.f56
  | 57 => some Try.f57
  | 58 => some Try.f58
  | 59 => some Try.f59
  | 60 => some Try.f60
  | 61 => some Try.f61
  | 62 => some Try.f62
  | 63 => some Try.f63
  | 64 => some Try.f64
  | 65 => some Try.f65
  | 66 => some Try.f66
  | 67 => some Try.f67
  | 68 => some Try.f68
  | 69 => some Try.f69
  | 70 => some Try.f70
  | 71 => some Try.f71
  | 72 => some Try.f72
  | 73 => some Try.f73
  | 74 => some Try.f74
  | 75 => some Try.f75
  | 76 => some Try.f76
  | _ => none
theorem fnT_ok : ∀ f F, fnT f = some F → Try.prog.funcs[f]? = some F ∧ (F.name == "runtime.NumGoroutine") = false ∧ F.body.isSome = true ∧ ∀ c, F.body = some c → codeB c = true := by
  intro f F h
  unfold fnT at h
  split at h
  · cases h; exact ⟨Try.func2, by kernel_rfl, by kernel_rfl, fun c hc => by cases hc; kernel_rfl⟩
  · cases h; exact ⟨Try.func3, by kernel_rfl, by kernel_rfl, fun c hc => by cases hc; kernel_rfl⟩
  · cases h; exact ⟨Try.func4, by kernel_rfl, by kernel_rfl, fun c hc => by cases hc; kernel_rfl⟩
  · cases h; exact ⟨Try.func5, by kernel_rfl, by kernel_rfl, fun c hc => by cases hc; kernel_rfl⟩
  · cases h; exact ⟨Try.func6, by kernel_rfl, by kernel_rfl, fun c hc => by cases hc; kernel_rfl⟩
  · cases h; exact ⟨Try.func7, by kernel_rfl, by kernel_rfl, fun c hc => by cases hc; kernel_rfl⟩
  · cases h; exact ⟨Try.func8, by kernel_rfl, by kernel_rfl, fun c hc => by cases hc; kernel_rfl⟩
  · cases h; exact ⟨Try.func9, by kernel_rfl, by kernel_rfl, fun c hc => by cases hc; kernel_rfl⟩
  · cases h; exact ⟨Try.func10, by kernel_rfl, by kernel_rfl, fun c hc => by cases hc; kernel_rfl⟩
  · cases h; exact ⟨Try.func11, by kernel_rfl, by kernel_rfl, fun c hc => by cases hc; kernel_rfl⟩
  · cases h; exact ⟨Try.func12, by kernel_rfl, by kernel_rfl, fun c hc => by cases hc; kernel_rfl⟩
  · cases h; exact ⟨Try.func13, by kernel_rfl, by kernel_rfl, fun c hc => by cases hc; kernel_rfl⟩
  · cases h; exact ⟨Try.func14, by kernel_rfl, by kernel_rfl, fun c hc => by cases hc; kernel_rfl⟩
  · cases h; exact ⟨Try.func15, by kernel_rfl, by kernel_rfl, fun c hc => by cases hc; kernel_rfl⟩
  · cases h; exact ⟨Try.func16, by kernel_rfl, by kernel_rfl, fun c hc => by cases hc; kernel_rfl⟩
  · cases h; exact ⟨Try.func17, by kernel_rfl, by kernel_rfl, fun c hc => by cases hc; kernel_rfl⟩
  · cases h; exact ⟨Try.func18, by kernel_rfl, by kernel_rfl, fun c hc => by cases hc; kernel_rfl⟩
  · cases h; exact ⟨Try.func19, by kernel_rfl, by kernel_rfl, fun c hc => by cases hc; kernel_rfl⟩
  · cases h; exact ⟨Try.func20, by kernel_rfl, by kernel_rfl, fun c hc => by cases hc; kernel_rfl⟩
  · cases h; exact ⟨Try.func21, by kernel_rfl, by kernel_rfl, fun c hc => by cases hc; kernel_rfl⟩
  · cases h; exact ⟨Try.func22, by kernel_rfl, by kernel_rfl, fun c hc => by cases hc; kernel_rfl⟩
  · cases h; exact ⟨Try.func23, by kernel_rfl, by kernel_rfl, fun c hc => by cases hc; kernel_rfl⟩
  · cases h; exact ⟨Try.func24, by kernel_rfl, by kernel_rfl, fun c hc => by cases hc; kernel_rfl⟩
  · cases h; exact ⟨Try.func25, by kernel_rfl, by kernel_rfl, fun c hc => by cases hc; kernel_rfl⟩
  · cases h; exact ⟨Try.func26, by kernel_rfl, by kernel_rfl, fun c hc => by cases hc; kernel_rfl⟩
  · cases h; exact ⟨Try.func27, by kernel_rfl, by kernel_rfl, fun c hc => by cases hc; kernel_rfl⟩
  · cases h; exact ⟨Try.func28, by kernel_rfl, by kernel_rfl, fun c hc => by cases hc; kernel_rfl⟩
  · cases h; exact ⟨Try.func29, by kernel_rfl, by kernel_rfl, fun c hc => by cases hc; kernel_rfl⟩
  · cases h; exact ⟨Try.func30, by kernel_rfl, by kernel_rfl, fun c hc => by cases hc; kernel_rfl⟩
  · cases h; exact ⟨Try.func31, by kernel_rfl, by kernel_rfl, fun c hc => by cases hc; kernel_rfl⟩
  · cases h; exact ⟨Try.func32, by kernel_rfl, by kernel_rfl, fun c hc => by cases hc; kernel_rfl⟩
  · cases h; exact ⟨Try.func33, by kernel_rfl, by kernel_rfl, fun c hc => by cases hc; kernel_rfl⟩
  · cases h; exact ⟨Try.func34, by kernel_rfl, by kernel_rfl, fun c hc => by cases hc; kernel_rfl⟩
  · cases h; exact ⟨Try.func35, by kernel_rfl, by kernel_rfl, fun c hc => by cases hc; kernel_rfl⟩
  · cases h; exact ⟨Try.func36, by kernel_rfl, by kernel_rfl, fun c hc => by cases hc; kernel_rfl⟩
  · cases h; exact ⟨Try.func37, by kernel_rfl, by kernel_rfl, fun c hc => by cases hc; kernel_rfl⟩
  · cases h; exact ⟨Try.func38, by kernel_rfl, by kernel_rfl, fun c hc => by cases hc; kernel_rfl⟩
  · cases h; exact ⟨Try.func39, by kernel_rfl, by kernel_rfl, fun c hc => by cases hc; kernel_rfl⟩
  · cases h; exact ⟨Try.func40, by kernel_rfl, by kernel_rfl, fun c hc => by cases hc; kernel_rfl⟩
  · cases h; exact ⟨Try.func41, by kernel_rfl, by kernel_rfl, fun c hc => by cases hc; kernel_rfl⟩
  · cases h; exact ⟨Try.func42, by kernel_rfl, by kernel_rfl, fun c hc => by cases hc; kernel_rfl⟩
  · cases h; exact ⟨Try.func43, by kernel_rfl, by kernel_rfl, fun c hc => by cases hc; kernel_rfl⟩
  · cases h; exact ⟨Try.func44, by kernel_rfl, by kernel_rfl, fun c hc => by cases hc; kernel_rfl⟩
  · cases h; exact ⟨Try.func45, by kernel_rfl, by kernel_rfl, fun c hc => by cases hc; kernel_rfl⟩
  · cases h; exact ⟨Try.func46, by kernel_rfl, by kernel_rfl, fun c hc => by cases hc; kernel_rfl⟩
  · cases h; exact ⟨Try.func47, by kernel_rfl, by kernel_rfl, fun c hc => by cases hc; kernel_rfl⟩
  · cases h; exact ⟨Try.func48, by kernel_rfl, by kernel_rfl, fun c hc => by cases hc; kernel_rfl⟩
  · cases h; exact ⟨Try.func49, by kernel_rfl, by kernel_rfl, fun c hc => by cases hc; kernel_rfl⟩
  · cases h; exact ⟨Try.func50, by kernel_rfl, by kernel_rfl, fun c hc => by cases hc; kernel_rfl⟩
  · cases h; exact ⟨Try.func51, by kernel_rfl, by kernel_rfl, fun c hc => by cases hc; kernel_rfl⟩
  · cases h; exact ⟨Try.func52, by kernel_rfl, by kernel_rfl, fun c hc => by cases hc; kernel_rfl⟩
  · cases h; exact ⟨Try.func53, by kernel_rfl, by kernel_rfl, fun c hc => by cases hc; kernel_rfl⟩
  · cases h; exact ⟨Try.func54, by kernel_rfl, by kernel_rfl, fun c hc => by cases hc; kernel_rfl⟩
  · cases h; exact ⟨Try.func55, by kernel_rfl, by kernel_rfl, fun c hc => by cases hc; kernel_rfl⟩
  · cases h; exact ⟨Try.func56, by kernel_rfl, by kernel_rfl, fun c hc => by cases hc; kernel_rfl⟩
  · cases h; exact ⟨Try.func57, by kernel_rfl, by kernel_rfl, fun c hc => by cases hc; kernel_rfl⟩
  · cases h; exact ⟨Try.func58, by kernel_rfl, by kernel_rfl, fun c hc => by cases hc; kernel_rfl⟩
  · cases h; exact ⟨Try.func59, by kernel_rfl, by kernel_rfl, fun c hc => by cases hc; kernel_rfl⟩
  · cases h; exact ⟨Try.func60, by kernel_rfl, by kernel_rfl, fun c hc => by cases hc; kernel_rfl⟩
  · cases h; exact ⟨Try.func61, by kernel_rfl, by kernel_rfl, fun c hc => by cases hc; kernel_rfl⟩
  · cases h; exact ⟨Try.func62, by kernel_rfl, by kernel_rfl, fun c hc => by cases hc; kernel_rfl⟩
  · cases h; exact ⟨Try.func63, by kernel_rfl, by kernel_rfl, fun c hc => by cases hc; kernel_rfl⟩
  · cases h; exact ⟨Try.func64, by kernel_rfl, by kernel_rfl, fun c hc => by cases hc; kernel_rfl⟩
  · cases h; exact ⟨Try.func65, by kernel_rfl, by kernel_rfl, fun c hc => by cases hc; kernel_rfl⟩
  · cases h; exact ⟨Try.func66, by kernel_rfl, by kernel_rfl, fun c hc => by cases hc; kernel_rfl⟩
  · cases h; exact ⟨Try.func67, by kernel_rfl, by kernel_rfl, fun c hc => by cases hc; kernel_rfl⟩
  · cases h; exact ⟨Try.func68, by kernel_rfl, by kernel_rfl, fun c hc => by cases hc; kernel_rfl⟩
  · cases h; exact ⟨Try.func69, by kernel_rfl, by kernel_rfl, fun c hc => by cases hc; kernel_rfl⟩
  · cases h; exact ⟨Try.func70, by kernel_rfl, by kernel_rfl, fun c hc => by cases hc; kernel_rfl⟩
  · cases h; exact ⟨Try.func71, by kernel_rfl, by kernel_rfl, fun c hc => by cases hc; kernel_rfl⟩
  · cases h; exact ⟨Try.func72, by kernel_rfl, by kernel_rfl, fun c hc => by cases hc; kernel_rfl⟩
  · cases h; exact ⟨Try.func73, by kernel_rfl, by kernel_rfl, fun c hc => by cases hc; kernel_rfl⟩
  · cases h; exact ⟨Try.func74, by kernel_rfl, by kernel_rfl, fun c hc => by cases hc; kernel_rfl⟩
  · cases h; exact ⟨Try.func75, by kernel_rfl, by kernel_rfl, fun c hc => by cases hc; kernel_rfl⟩
  · cases h; exact ⟨Try.func76, by kernel_rfl, by kernel_rfl, fun c hc => by cases hc; kernel_rfl⟩
  · cases h
noncomputable def tb : Tb Try.prog where
  und := Try.prog.underlying
  sz := fun t => (Try.prog.info? t).map (·.size)
  bytes := fun t => (Try.prog.info? t).map (·.bytes)
  zero := fun t => ((Try.prog.info? t).bind (·.zero)).bind ofValue
  fn := fnT
  meth := fun _ _ => none
  loud := fun _ => false
  cnt := fun _ => false
  known := fun _ => none
  undOk := fun _ _ h => h
  szOk := fun _ _ h => h
  bytesOk := fun _ _ h => h
  zeroOk := fun _ _ h => h
  fnOk := fnT_ok
  methOk := fun _ _ _ _ _ h => by cases h
  cntOk := fun _ _ _ h => by cases h
  knownOk := fun _ _ h => by cases h

end Go.Proofs.Ythhmapgolnkjcaa.Am
