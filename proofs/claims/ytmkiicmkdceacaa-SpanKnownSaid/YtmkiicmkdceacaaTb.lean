/- What the machine asks of the program: its functions and its types, each row proved. No conditions. -/
import Derived.Test.YtmkiicmkdceacaaProg
import Derived.KernelRfl
import Derived.Test.YtmkiicmkdceacaaAm3
namespace Go.Proofs.Ytmkiicmkdceacaa.Am
open Go.Proofs
set_option maxRecDepth 100000
noncomputable def fnT : FuncId → Option Func
  | 2 => some Try.f2
  | 3 => some Try.f3
  | 4 => some Try.f4
  | 5 => some Try.f5
  | 6 => some Try.f6
  | 7 => some Try.f7
  | 8 => some Try.f8
  | 9 => some Try.f9
  | 10 => some Try.f10
  | 11 => some Try.f11
  | 12 => some Try.f12
  | 13 => some Try.f13
  | 14 => some Try.f14
  | 15 => some Try.f15
  | 16 => some Try.f16
  | 17 => some Try.f17
  | 18 => some Try.f18
  | 19 => some Try.f19
  | 20 => some Try.f20
  | 21 => some Try.f21
  | 22 => some Try.f22
  | 23 => some Try.f23
  | 24 => some Try.f24
  | 25 => some Try.f25
  | 26 => some Try.f26
  | 27 => some Try.f27
  | 28 => some Try.f28
  | 29 => some Try.f29
  | 30 => some Try.f30
  | 31 => some Try.f31
  | 32 => some Try.f32
  | 33 => some Try.f33
  | 34 => some Try.f34
  | 35 => some Try.f35
  | 36 => some Try.f36
  | 37 => some Try.f37
  | 38 => some Try.f38
  | 39 => some Try.f39
  | 40 => some Try.f40
  | 41 => some Try.f41
  | 42 => some Try.f42
  | 43 => some Try.f43
  | 44 => some Try.f44
  | 45 => some Try.f45
  | 46 => some Try.f46
  | 47 => some Try.f47
  | 48 => some Try.f48
  | 49 => some Try.f49
  | 50 => some Try.f50
  | 51 => some Try.f51
  | 52 => some Try.f52
  | 53 => some Try.f53
  | 54 => some Try.f54
  | 71 => some Try.f71
  | 72 => some Try.f72
  | 75 => some Try.f75
  | 77 => some Try.f77
  | 78 => some Try.f78
  | 79 => some Try.f79
  | 80 => some Try.f80
  | 81 => some Try.f81
  | 82 => some Try.f82
  | 83 => some Try.f83
  | 84 => some Try.f84
  | 85 => some Try.f85
  | 86 => some Try.f86
  | 87 => some Try.f87
  | 88 => some Try.f88
  | 89 => some Try.f89
  | 90 => some Try.f90
  | 91 => some Try.f91
  | 92 => some Try.f92
  | 93 => some Try.f93
  | 94 => some Try.f94
  | 95 => some Try.f95
  | 96 => some Try.f96
  | 97 => some Try.f97
  | 98 => some Try.f98
  | 99 => some Try.f99
  | 100 => some Try.f100
  | 101 => some Try.f101
  | 102 => some Try.f102
  | 105 => some Try.f105
  | 107 => some Try.f107
  | _ => none
theorem fnT_ok : ∀ f F, fnT f = some F → Try.prog.funcs[f]? = some F ∧ (F.name == "runtime.NumGoroutine") = false ∧ F.body.isSome = true ∧ ∀ c, F.body = some c → codeB c = true := by
  intro f F h
  unfold fnT at h
  split at h
  · cases h; exact ⟨Try.func2, by kernel_rfl, by kernel_rfl, fun c hc => by cases hc; kernel_rfl⟩
  · cases h; exact ⟨Try.func3, by kernel_rfl, by kernel_rfl, fun c hc => by cases hc; kernel_rfl⟩
  · cases h; exact ⟨Try.func4, by kernel_rfl, by kernel_rfl, fun c hc => by cases hc; kernel_rfl⟩
  · cases h; exact ⟨Try.func5, by kernel_rfl, by kernel_rfl, fun c hc => by cases hc; kernel_rfl⟩
  · cases h; exact ⟨Try.func6, by kernel_rfl, by kernel_rfl, fun c hc => by cases hc; kernel_rfl⟩
  · cases h; exact ⟨Try.func7, by kernel_rfl, by kernel_rfl, fun c hc => by cases hc; kernel_rfl⟩
  · cases h; exact ⟨Try.func8, by kernel_rfl, by kernel_rfl, fun c hc => by cases hc; kernel_rfl⟩
  · cases h; exact ⟨Try.func9, by kernel_rfl, by kernel_rfl, fun c hc => by cases hc; kernel_rfl⟩
  · cases h; exact ⟨Try.func10, by kernel_rfl, by kernel_rfl, fun c hc => by cases hc; kernel_rfl⟩
  · cases h; exact ⟨Try.func11, by kernel_rfl, by kernel_rfl, fun c hc => by cases hc; kernel_rfl⟩
  · cases h; exact ⟨Try.func12, by kernel_rfl, by kernel_rfl, fun c hc => by cases hc; kernel_rfl⟩
  · cases h; exact ⟨Try.func13, by kernel_rfl, by kernel_rfl, fun c hc => by cases hc; kernel_rfl⟩
  · cases h; exact ⟨Try.func14, by kernel_rfl, by kernel_rfl, fun c hc => by cases hc; kernel_rfl⟩
  · cases h; exact ⟨Try.func15, by kernel_rfl, by kernel_rfl, fun c hc => by cases hc; kernel_rfl⟩
  · cases h; exact ⟨Try.func16, by kernel_rfl, by kernel_rfl, fun c hc => by cases hc; kernel_rfl⟩
  · cases h; exact ⟨Try.func17, by kernel_rfl, by kernel_rfl, fun c hc => by cases hc; kernel_rfl⟩
  · cases h; exact ⟨Try.func18, by kernel_rfl, by kernel_rfl, fun c hc => by cases hc; kernel_rfl⟩
  · cases h; exact ⟨Try.func19, by kernel_rfl, by kernel_rfl, fun c hc => by cases hc; kernel_rfl⟩
  · cases h; exact ⟨Try.func20, by kernel_rfl, by kernel_rfl, fun c hc => by cases hc; kernel_rfl⟩
  · cases h; exact ⟨Try.func21, by kernel_rfl, by kernel_rfl, fun c hc => by cases hc; kernel_rfl⟩
  · cases h; exact ⟨Try.func22, by kernel_rfl, by kernel_rfl, fun c hc => by cases hc; kernel_rfl⟩
  · cases h; exact ⟨Try.func23, by kernel_rfl, by kernel_rfl, fun c hc => by cases hc; kernel_rfl⟩
  · cases h; exact ⟨Try.func24, by kernel_rfl, by kernel_rfl, fun c hc => by cases hc; kernel_rfl⟩
  · cases h; exact ⟨Try.func25, by kernel_rfl, by kernel_rfl, fun c hc => by cases hc; kernel_rfl⟩
  · cases h; exact ⟨Try.func26, by kernel_rfl, by kernel_rfl, fun c hc => by cases hc; kernel_rfl⟩
  · cases h; exact ⟨Try.func27, by kernel_rfl, by kernel_rfl, fun c hc => by cases hc; kernel_rfl⟩
  · cases h; exact ⟨Try.func28, by kernel_rfl, by kernel_rfl, fun c hc => by cases hc; kernel_rfl⟩
  · cases h; exact ⟨Try.func29, by kernel_rfl, by kernel_rfl, fun c hc => by cases hc; kernel_rfl⟩
  · cases h; exact ⟨Try.func30, by kernel_rfl, by kernel_rfl, fun c hc => by cases hc; kernel_rfl⟩
  · cases h; exact ⟨Try.func31, by kernel_rfl, by kernel_rfl, fun c hc => by cases hc; kernel_rfl⟩
  · cases h; exact ⟨Try.func32, by kernel_rfl, by kernel_rfl, fun c hc => by cases hc; kernel_rfl⟩
  · cases h; exact ⟨Try.func33, by kernel_rfl, by kernel_rfl, fun c hc => by cases hc; kernel_rfl⟩
  · cases h; exact ⟨Try.func34, by kernel_rfl, by kernel_rfl, fun c hc => by cases hc; kernel_rfl⟩
  · cases h; exact ⟨Try.func35, by kernel_rfl, by kernel_rfl, fun c hc => by cases hc; kernel_rfl⟩
  · cases h; exact ⟨Try.func36, by kernel_rfl, by kernel_rfl, fun c hc => by cases hc; kernel_rfl⟩
  · cases h; exact ⟨Try.func37, by kernel_rfl, by kernel_rfl, fun c hc => by cases hc; kernel_rfl⟩
  · cases h; exact ⟨Try.func38, by kernel_rfl, by kernel_rfl, fun c hc => by cases hc; kernel_rfl⟩
  · cases h; exact ⟨Try.func39, by kernel_rfl, by kernel_rfl, fun c hc => by cases hc; kernel_rfl⟩
  · cases h; exact ⟨Try.func40, by kernel_rfl, by kernel_rfl, fun c hc => by cases hc; kernel_rfl⟩
  · cases h; exact ⟨Try.func41, by kernel_rfl, by kernel_rfl, fun c hc => by cases hc; kernel_rfl⟩
  · cases h; exact ⟨Try.func42, by kernel_rfl, by kernel_rfl, fun c hc => by cases hc; kernel_rfl⟩
  · cases h; exact ⟨Try.func43, by kernel_rfl, by kernel_rfl, fun c hc => by cases hc; kernel_rfl⟩
  · cases h; exact ⟨Try.func44, by kernel_rfl, by kernel_rfl, fun c hc => by cases hc; kernel_rfl⟩
  · cases h; exact ⟨Try.func45, by kernel_rfl, by kernel_rfl, fun c hc => by cases hc; kernel_rfl⟩
  · cases h; exact ⟨Try.func46, by kernel_rfl, by kernel_rfl, fun c hc => by cases hc; kernel_rfl⟩
  · cases h; exact ⟨Try.func47, by kernel_rfl, by kernel_rfl, fun c hc => by cases hc; kernel_rfl⟩
  · cases h; exact ⟨Try.func48, by kernel_rfl, by kernel_rfl, fun c hc => by cases hc; kernel_rfl⟩
  · cases h; exact ⟨Try.func49, by kernel_rfl, by kernel_rfl, fun c hc => by cases hc; kernel_rfl⟩
  · cases h; exact ⟨Try.func50, by kernel_rfl, by kernel_rfl, fun c hc => by cases hc; kernel_rfl⟩
  · cases h; exact ⟨Try.func51, by kernel_rfl, by kernel_rfl, fun c hc => by cases hc; kernel_rfl⟩
  · cases h; exact ⟨Try.func52, by kernel_rfl, by kernel_rfl, fun c hc => by cases hc; kernel_rfl⟩
  · cases h; exact ⟨Try.func53, by kernel_rfl, by kernel_rfl, fun c hc => by cases hc; kernel_rfl⟩
  · cases h; exact ⟨Try.func54, by kernel_rfl, by kernel_rfl, fun c hc => by cases hc; kernel_rfl⟩
  · cases h; exact ⟨Try.func71, by kernel_rfl, by kernel_rfl, fun c hc => by cases hc; kernel_rfl⟩
  · cases h; exact ⟨Try.func72, by kernel_rfl, by kernel_rfl, fun c hc => by cases hc; kernel_rfl⟩
  · cases h; exact ⟨Try.func75, by kernel_rfl, by kernel_rfl, fun c hc => by cases hc; kernel_rfl⟩
  · cases h; exact ⟨Try.func77, by kernel_rfl, by kernel_rfl, fun c hc => by cases hc; kernel_rfl⟩
  · cases h; exact ⟨Try.func78, by kernel_rfl, by kernel_rfl, fun c hc => by cases hc; kernel_rfl⟩
  · cases h; exact ⟨Try.func79, by kernel_rfl, by kernel_rfl, fun c hc => by cases hc; kernel_rfl⟩
  · cases h; exact ⟨Try.func80, by kernel_rfl, by kernel_rfl, fun c hc => by cases hc; kernel_rfl⟩
  · cases h; exact ⟨Try.func81, by kernel_rfl, by kernel_rfl, fun c hc => by cases hc; kernel_rfl⟩
  · cases h; exact ⟨Try.func82, by kernel_rfl, by kernel_rfl, fun c hc => by cases hc; kernel_rfl⟩
  · cases h; exact ⟨Try.func83, by kernel_rfl, by kernel_rfl, fun c hc => by cases hc; kernel_rfl⟩
  · cases h; exact ⟨Try.func84, by kernel_rfl, by kernel_rfl, fun c hc => by cases hc; kernel_rfl⟩
  · cases h; exact ⟨Try.func85, by kernel_rfl, by kernel_rfl, fun c hc => by cases hc; kernel_rfl⟩
  · cases h; exact ⟨Try.func86, by kernel_rfl, by kernel_rfl, fun c hc => by cases hc; kernel_rfl⟩
  · cases h; exact ⟨Try.func87, by kernel_rfl, by kernel_rfl, fun c hc => by cases hc; kernel_rfl⟩
  · cases h; exact ⟨Try.func88, by kernel_rfl, by kernel_rfl, fun c hc => by cases hc; kernel_rfl⟩
  · cases h; exact ⟨Try.func89, by kernel_rfl, by kernel_rfl, fun c hc => by cases hc; kernel_rfl⟩
  · cases h; exact ⟨Try.func90, by kernel_rfl, by kernel_rfl, fun c hc => by cases hc; kernel_rfl⟩
  · cases h; exact ⟨Try.func91, by kernel_rfl, by kernel_rfl, fun c hc => by cases hc; kernel_rfl⟩
  · cases h; exact ⟨Try.func92, by kernel_rfl, by kernel_rfl, fun c hc => by cases hc; kernel_rfl⟩
  · cases h; exact ⟨Try.func93, by kernel_rfl, by kernel_rfl, fun c hc => by cases hc; kernel_rfl⟩
  · cases h; exact ⟨Try.func94, by kernel_rfl, by kernel_rfl, fun c hc => by cases hc; kernel_rfl⟩
  · cases h; exact ⟨Try.func95, by kernel_rfl, by kernel_rfl, fun c hc => by cases hc; kernel_rfl⟩
  · cases h; exact ⟨Try.func96, by kernel_rfl, by kernel_rfl, fun c hc => by cases hc; kernel_rfl⟩
  · cases h; exact ⟨Try.func97, by kernel_rfl, by kernel_rfl, fun c hc => by cases hc; kernel_rfl⟩
  · cases h; exact ⟨Try.func98, by kernel_rfl, by kernel_rfl, fun c hc => by cases hc; kernel_rfl⟩
  · cases h; exact ⟨Try.func99, by kernel_rfl, by kernel_rfl, fun c hc => by cases hc; kernel_rfl⟩
  · cases h; exact ⟨Try.func100, by kernel_rfl, by kernel_rfl, fun c hc => by cases hc; kernel_rfl⟩
  · cases h; exact ⟨Try.func101, by kernel_rfl, by kernel_rfl, fun c hc => by cases hc; kernel_rfl⟩
  · cases h; exact ⟨Try.func102, by kernel_rfl, by kernel_rfl, fun c hc => by cases hc; kernel_rfl⟩
  · cases h; exact ⟨Try.func105, by kernel_rfl, by kernel_rfl, fun c hc => by cases hc; kernel_rfl⟩
  · cases h; exact ⟨Try.func107, by kernel_rfl, by kernel_rfl, fun c hc => by cases hc; kernel_rfl⟩
  · cases h
def methT (t : TypeId) (name : String) : Option FuncId :=
  if t = 52 ∧ name = "Capacity" then some 71 else
  if t = 52 ∧ name = "Clear" then some 72 else
  if t = 52 ∧ name = "Most" then some 75 else
  if t = 52 ∧ name = "Runs" then some 24 else
  if t = 52 ∧ name = "Set" then some 77 else
  if t = 55 ∧ name = "Capacity" then some 101 else
  if t = 55 ∧ name = "Clear" then some 102 else
  if t = 55 ∧ name = "Most" then some 105 else
  if t = 55 ∧ name = "Runs" then some 34 else
  if t = 55 ∧ name = "Set" then some 33 else
  none
theorem methT_ok : ∀ t name f v w, methT t name = some f → (method (Try.prog.types.size + Made.depth) t v name).run Try.prog w = .ok (f, v) w := by
  intro t name f v w h
  unfold methT at h
  split at h
  · next e => obtain ⟨rfl, rfl⟩ := e; injection h with h; subst h; exact meth_row (e := Try.prog.elemP 52) (by kernel_rfl) (by kernel_rfl) v w
  split at h
  · next e => obtain ⟨rfl, rfl⟩ := e; injection h with h; subst h; exact meth_row (e := Try.prog.elemP 52) (by kernel_rfl) (by kernel_rfl) v w
  split at h
  · next e => obtain ⟨rfl, rfl⟩ := e; injection h with h; subst h; exact meth_row (e := Try.prog.elemP 52) (by kernel_rfl) (by kernel_rfl) v w
  split at h
  · next e => obtain ⟨rfl, rfl⟩ := e; injection h with h; subst h; exact meth_row (e := Try.prog.elemP 52) (by kernel_rfl) (by kernel_rfl) v w
  split at h
  · next e => obtain ⟨rfl, rfl⟩ := e; injection h with h; subst h; exact meth_row (e := Try.prog.elemP 52) (by kernel_rfl) (by kernel_rfl) v w
  split at h
  · next e => obtain ⟨rfl, rfl⟩ := e; injection h with h; subst h; exact meth_row (e := Try.prog.elemP 55) (by kernel_rfl) (by kernel_rfl) v w
  split at h
  · next e => obtain ⟨rfl, rfl⟩ := e; injection h with h; subst h; exact meth_row (e := Try.prog.elemP 55) (by kernel_rfl) (by kernel_rfl) v w
  split at h
  · next e => obtain ⟨rfl, rfl⟩ := e; injection h with h; subst h; exact meth_row (e := Try.prog.elemP 55) (by kernel_rfl) (by kernel_rfl) v w
  split at h
  · next e => obtain ⟨rfl, rfl⟩ := e; injection h with h; subst h; exact meth_row (e := Try.prog.elemP 55) (by kernel_rfl) (by kernel_rfl) v w
  split at h
  · next e => obtain ⟨rfl, rfl⟩ := e; injection h with h; subst h; exact meth_row (e := Try.prog.elemP 55) (by kernel_rfl) (by kernel_rfl) v w
  cases h
noncomputable def tb : Tb Try.prog where
  und := Try.prog.underlying
  sz := fun t => (Try.prog.info? t).map (·.size)
  bytes := fun t => (Try.prog.info? t).map (·.bytes)
  zero := fun t => ((Try.prog.info? t).bind (·.zero)).bind ofValue
  fn := fnT
  meth := methT
  loud := fun _ => false
  cnt := fun _ => false
  spec := fun _ => none
  undOk := fun _ _ h => h
  szOk := fun _ _ h => h
  bytesOk := fun _ _ h => h
  zeroOk := fun _ _ h => h
  fnOk := fnT_ok
  methOk := methT_ok
  cntOk := fun _ _ _ h => by cases h
  specOk := fun _ _ h => by cases h

end Go.Proofs.Ytmkiicmkdceacaa.Am
