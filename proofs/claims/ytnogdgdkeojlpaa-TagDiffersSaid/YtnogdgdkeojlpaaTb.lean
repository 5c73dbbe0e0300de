/- What the machine asks of the program: its functions and its types, each row proved. No conditions. -/
import Derived.Test.YtnogdgdkeojlpaaProg
import Derived.KernelRfl
import Derived.Test.YtnogdgdkeojlpaaAm5
namespace Go.Proofs.Ytnogdgdkeojlpaa.Am
open Go.Proofs
set_option maxRecDepth 100000
noncomputable def fnT : FuncId → Option Func
  | 2 => some Try.f2
  | 3 => some Try.f3
  | 4 => some Try.f4
  | 5 => some Try.f5
  | 6 => some Try.f6
  | 7 => some Try.f7
  | 8 => some Try.f8
  | 9 => some Try.f9
  | 10 => some Try.f10
  | 11 => some Try.f11
  | 12 => some Try.f12
  | 13 => some Try.f13
  | 14 => some Try.f14
  | 15 => some Try.f15
  | 16 => some Try.f16
  | 17 => some Try.f17
  | 18 => some Try.f18
  | 19 => some Try.f19
  | 20 => some Try.f20
  | 21 => some Try.f21
  | 22 => some Try.f22
  | 23 => some Try.f23
  | 24 => some Try.f24
  | 25 => some Try.f25
  | 26 => some Try.f26
  | 27 => some Try.f27
  | 29 => some Try.f29
  | 30 => some Try.f30
  | 31 => some Try.f31
  | 32 => some Try.f32
  | 33 => some Try.f33
  | 35 => some Try.f35
  | 36 => some Try.f36
  | 37 => some Try.f37
  | 39 => some Try.f39
  | _ => none
theorem fnT_ok : ∀ f F, fnT f = some F → Try.prog.funcs[f]? = some F ∧ (F.name == "runtime.NumGoroutine") = false ∧ F.body.isSome = true ∧ ∀ c, F.body = some c → codeB c = true := by
  intro f F h
  unfold fnT at h
  split at h
  · cases h; exact ⟨Try.func2, by kernel_rfl, by kernel_rfl, fun c hc => by cases hc; kernel_rfl⟩
  · cases h; exact ⟨Try.func3, by kernel_rfl, by kernel_rfl, fun c hc => by cases hc; kernel_rfl⟩
  · cases h; exact ⟨Try.func4, by kernel_rfl, by kernel_rfl, fun c hc => by cases hc; kernel_rfl⟩
  · cases h; exact ⟨Try.func5, by kernel_rfl, by kernel_rfl, fun c hc => by cases hc; kernel_rfl⟩
  · cases h; exact ⟨Try.func6, by kernel_rfl, by kernel_rfl, fun c hc => by cases hc; kernel_rfl⟩
  · cases h; exact ⟨Try.func7, by kernel_rfl, by kernel_rfl, fun c hc => by cases hc; kernel_rfl⟩
  · cases h; exact ⟨Try.func8, by kernel_rfl, by kernel_rfl, fun c hc => by cases hc; kernel_rfl⟩
  · cases h; exact ⟨Try.func9, by kernel_rfl, by kernel_rfl, fun c hc => by cases hc; kernel_rfl⟩
  · cases h; exact ⟨Try.func10, by kernel_rfl, by kernel_rfl, fun c hc => by cases hc; kernel_rfl⟩
  · cases h; exact ⟨Try.func11, by kernel_rfl, by kernel_rfl, fun c hc => by cases hc; kernel_rfl⟩
  · cases h; exact ⟨Try.func12, by kernel_rfl, by kernel_rfl, fun c hc => by cases hc; kernel_rfl⟩
  · cases h; exact ⟨Try.func13, by kernel_rfl, by kernel_rfl, fun c hc => by cases hc; kernel_rfl⟩
  · cases h; exact ⟨Try.func14, by kernel_rfl, by kernel_rfl, fun c hc => by cases hc; kernel_rfl⟩
  · cases h; exact ⟨Try.func15, by kernel_rfl, by kernel_rfl, fun c hc => by cases hc; kernel_rfl⟩
  · cases h; exact ⟨Try.func16, by kernel_rfl, by kernel_rfl, fun c hc => by cases hc; kernel_rfl⟩
  · cases h; exact ⟨Try.func17, by kernel_rfl, by kernel_rfl, fun c hc => by cases hc; kernel_rfl⟩
  · cases h; exact ⟨Try.func18, by kernel_rfl, by kernel_rfl, fun c hc => by cases hc; kernel_rfl⟩
  · cases h; exact ⟨Try.func19, by kernel_rfl, by kernel_rfl, fun c hc => by cases hc; kernel_rfl⟩
  · cases h; exact ⟨Try.func20, by kernel_rfl, by kernel_rfl, fun c hc => by cases hc; kernel_rfl⟩
  · cases h; exact ⟨Try.func21, by kernel_rfl, by kernel_rfl, fun c hc => by cases hc; kernel_rfl⟩
  · cases h; exact ⟨Try.func22, by kernel_rfl, by kernel_rfl, fun c hc => by cases hc; kernel_rfl⟩
  · cases h; exact ⟨Try.func23, by kernel_rfl, by kernel_rfl, fun c hc => by cases hc; kernel_rfl⟩
  · cases h; exact ⟨Try.func24, by kernel_rfl, by kernel_rfl, fun c hc => by cases hc; kernel_rfl⟩
  · cases h; exact ⟨Try.func25, by kernel_rfl, by kernel_rfl, fun c hc => by cases hc; kernel_rfl⟩
  · cases h; exact ⟨Try.func26, by kernel_rfl, by kernel_rfl, fun c hc => by cases hc; kernel_rfl⟩
  · cases h; exact ⟨Try.func27, by kernel_rfl, by kernel_rfl, fun c hc => by cases hc; kernel_rfl⟩
  · cases h; exact ⟨Try.func29, by kernel_rfl, by kernel_rfl, fun c hc => by cases hc; kernel_rfl⟩
  · cases h; exact ⟨Try.func30, by kernel_rfl, by kernel_rfl, fun c hc => by cases hc; kernel_rfl⟩
  · cases h; exact ⟨Try.func31, by kernel_rfl, by kernel_rfl, fun c hc => by cases hc; kernel_rfl⟩
  · cases h; exact ⟨Try.func32, by kernel_rfl, by kernel_rfl, fun c hc => by cases hc; kernel_rfl⟩
  · cases h; exact ⟨Try.func33, by kernel_rfl, by kernel_rfl, fun c hc => by cases hc; kernel_rfl⟩
  · cases h; exact ⟨Try.func35, by kernel_rfl, by kernel_rfl, fun c hc => by cases hc; kernel_rfl⟩
  · cases h; exact ⟨Try.func36, by kernel_rfl, by kernel_rfl, fun c hc => by cases hc; kernel_rfl⟩
  · cases h; exact ⟨Try.func37, by kernel_rfl, by kernel_rfl, fun c hc => by cases hc; kernel_rfl⟩
  · cases h; exact ⟨Try.func39, by kernel_rfl, by kernel_rfl, fun c hc => by cases hc; kernel_rfl⟩
  · cases h
theorem cnt_ok : ∀ f args w, (f == 28) = true → (callFunc f args).run Try.prog w = ((Extern.BytealgCount.count args).run Try.prog w).andThen fun v w => .ok (.value v) w := by
  intro f args w h
  have h : f = 28 := by simpa using h
  subst h
  exact run_callFunc_extern (fn := (Try.prog.funcs.getD 28 default)) (by kernel_rfl) (by kernel_rfl) (by kernel_rfl) (by kernel_rfl) (by kernel_rfl) args w
def szT : TypeId → Option Nat
  | 0 => some 1
  | 1 => some 1
  | 2 => some 1
  | 3 => some 1
  | 4 => some 1
  | 5 => some 1
  | 6 => some 1
  | 7 => some 4
  | 8 => some 4
  | 9 => some 1
  | 10 => some 1
  | 11 => some 1
  | 12 => some 1
  | 13 => some 2
  | 14 => some 2
  | 15 => some 1
  | 16 => some 1
  | 17 => some 1
  | 18 => some 1
  | 19 => some 1
  | 20 => some 1
  | 21 => some 1
  | 22 => some 1
  | 23 => some 1
  | 24 => some 1
  | 25 => some 1
  | 26 => some 1
  | 27 => some 1
  | 28 => some 32
  | 29 => some 39
  | 30 => some 39
  | 31 => some 1
  | 32 => some 1
  | 33 => some 1
  | 34 => some 1
  | 35 => some 1
  | 36 => some 1
  | 37 => some 1
  | 38 => some 1
  | 39 => some 1
  | 40 => some 1
  | 41 => some 1
  | 42 => some 1
  | 43 => some 1
  | 44 => some 1
  | 45 => some 6
  | 46 => some 1
  | 47 => some 1
  | 48 => some 1
  | 49 => some 6
  | 50 => some 1
  | 51 => some 1
  | 52 => some 1
  | 53 => some 1
  | 54 => some 1
  | 55 => some 1
  | 56 => some 1
  | 57 => some 1
  | 58 => some 1
  | 59 => some 1
  | 60 => some 1
  | 61 => some 1
  | 62 => some 1
  | 63 => some 1
  | 64 => some 4
  | 65 => some 4
  | 66 => some 0
  | 67 => some 0
  | 68 => some 0
  | 69 => some 1
  | 70 => some 1
  | 71 => some 1
  | 72 => some 1
  | 73 => some 1
  | 74 => some 1
  | 75 => some 1
  | 76 => some 11
  | 77 => some 11
  | 78 => some 1
  | _ => none
theorem szT_ok : ∀ t n, szT t = some n → (Try.prog.info? t).map (·.size) = some n := by
  intro t n h
  unfold szT at h
  split at h
  case _ => cases h; kernel_rfl
  all_goals (first | (cases h; kernel_rfl) | (cases h; done))
def byT : TypeId → Option Nat
  | 0 => some 0
  | 1 => some 8
  | 2 => some 8
  | 3 => some 8
  | 4 => some 1
  | 5 => some 1
  | 6 => some 1
  | 7 => some 24
  | 8 => some 24
  | 9 => some 16
  | 10 => some 16
  | 11 => some 16
  | 12 => some 8
  | 13 => some 24
  | 14 => some 24
  | 15 => some 8
  | 16 => some 8
  | 17 => some 8
  | 18 => some 8
  | 19 => some 8
  | 20 => some 16
  | 21 => some 4
  | 22 => some 8
  | 23 => some 24
  | 24 => some 8
  | 25 => some 0
  | 26 => some 8
  | 27 => some 4
  | 28 => some 32
  | 29 => some 64
  | 30 => some 64
  | 31 => some 0
  | 32 => some 8
  | 33 => some 8
  | 34 => some 24
  | 35 => some 8
  | 36 => some 8
  | 37 => some 8
  | 38 => some 8
  | 39 => some 8
  | 40 => some 0
  | 41 => some 8
  | 42 => some 8
  | 43 => some 8
  | 44 => some 8
  | 45 => some 24
  | 46 => some 8
  | 47 => some 8
  | 48 => some 8
  | 49 => some 48
  | 50 => some 8
  | 51 => some 8
  | 52 => some 8
  | 53 => some 8
  | 54 => some 8
  | 55 => some 8
  | 56 => some 8
  | 57 => some 8
  | 58 => some 8
  | 59 => some 8
  | 60 => some 8
  | 61 => some 0
  | 62 => some 8
  | 63 => some 8
  | 64 => some 40
  | 65 => some 40
  | 66 => some 0
  | 67 => some 0
  | 68 => some 0
  | 69 => some 8
  | 70 => some 1
  | 71 => some 1
  | 72 => some 8
  | 73 => some 8
  | 74 => some 4
  | 75 => some 4
  | 76 => some 48
  | 77 => some 48
  | 78 => some 8
  | _ => none
theorem byT_ok : ∀ t n, byT t = some n → (Try.prog.info? t).map (·.bytes) = some n := by
  intro t n h
  unfold byT at h
  split at h
  case _ => cases h; kernel_rfl
  all_goals (first | (cases h; kernel_rfl) | (cases h; done))
noncomputable def tb : Tb Try.prog where
  und := Try.prog.underlying
  sz := szT
  bytes := byT
  zero := fun t => ((Try.prog.info? t).bind (·.zero)).bind ofValue
  fn := fnT
  meth := fun _ _ => none
  loud := fun _ => false
  cnt := fun g => g == 28
  spec := fun _ => none
  undOk := fun _ _ h => h
  szOk := szT_ok
  bytesOk := byT_ok
  zeroOk := fun _ _ h => h
  fnOk := fnT_ok
  methOk := fun _ _ _ _ _ h => by cases h
  cntOk := cnt_ok
  specOk := fun _ _ h => by cases h

section
variable {n N : Nat} {k : List Fm} {c : Code} {S : List (Nat × V)} {h h1 : LH} {Q : Ex → T V → LH → Prop} {i d : Nat} {v : V} {p : Prop} [Decidable p] {a b : Int}
theorem jo (w : WS Try.prog n N (rest c (i + 1) :: k) (slt ((d, v) :: S)) h1 Q) (hi : Nat.blt i (kops c).toList.length = true := by exact rfl) (hd : (kop c i).dst = some d := by exact rfl) (hf : fitS n (kops c) (kop c i) S = true := by exact rfl) (hw : wantS (kops c) (kop c i) S = true := by exact rfl) (hs : step tb noCalls (evS S) h (kop c i).op = some (v, h1) := by exact rfl) : WS Try.prog n N (rest c i :: k) (slt S) h Q := WS.po (tb := tb) hi hd hf hw hs w
theorem jW {kd : IntKind} {z : Int} (w : WS Try.prog n N (rest c (i + 1) :: k) (slt ((d, .i kd z) :: S)) h1 Q) (hi : Nat.blt i (kops c).toList.length = true := by exact rfl) (hd : (kop c i).dst = some d := by exact rfl) (hf : fitS n (kops c) (kop c i) S = true := by exact rfl) (hw : wantS (kops c) (kop c i) S = true := by exact rfl) (hs : step tb noCalls (evS S) h (kop c i).op = some (.i kd (wr kd z), h1) := by exact rfl) (h0 : lo kd ≤ z := by simp only [lo]; omega) (h2 : z ≤ Am.hi kd := by simp only [Am.hi]; omega) : WS Try.prog n N (rest c i :: k) (slt S) h Q := WS.poW (tb := tb) hi hd hf hw hs h0 h2 w
theorem jP {l o o' : Nat} (w : WS Try.prog n N (rest c (i + 1) :: k) (slt ((d, .p (some (l, o'))) :: S)) h1 Q) (hi : Nat.blt i (kops c).toList.length = true := by exact rfl) (hd : (kop c i).dst = some d := by exact rfl) (hf : fitS n (kops c) (kop c i) S = true := by exact rfl) (hw : wantS (kops c) (kop c i) S = true := by exact rfl) (hs : step tb noCalls (evS S) h (kop c i).op = some (.p (some (l, o)), h1) := by exact rfl) (ho : o = o' := by simp only [nl, nz, Nat.reduceAdd, Nat.reduceMul, Int.reduceToNat]; exact rfl) : WS Try.prog n N (rest c i :: k) (slt S) h Q := WS.poP (tb := tb) hi hd hf hw hs ho w
theorem jQ {l o o' : Nat} (w : WS Try.prog n N (rest c (i + 1) :: k) (slt ((d, .p (some (l, o'))) :: S)) h1 Q) (hi : Nat.blt i (kops c).toList.length = true := by exact rfl) (hd : (kop c i).dst = some d := by exact rfl) (hf : fitS n (kops c) (kop c i) S = true := by exact rfl) (hw : wantS (kops c) (kop c i) S = true := by exact rfl) (hs : step tb noCalls (evS S) h (kop c i).op = some (.p (some (l, o)), h1) := by exact rfl) (ho : o = o' := by simp only [Nat.zero_add, Nat.add_zero, Nat.reduceAdd, Nat.reduceMul, Nat.add_assoc, Nat.mul_one]; exact rfl) : WS Try.prog n N (rest c i :: k) (slt S) h Q := WS.poP (tb := tb) hi hd hf hw hs ho w
theorem jI {l o o' : Nat} (w : WS Try.prog n N (rest c (i + 1) :: k) (slt ((d, .p (some (l, o'))) :: S)) h1 Q) (hi : Nat.blt i (kops c).toList.length = true := by exact rfl) (hd : (kop c i).dst = some d := by exact rfl) (hf : fitS n (kops c) (kop c i) S = true := by exact rfl) (hw : wantS (kops c) (kop c i) S = true := by exact rfl) (hs : step tb noCalls (evS S) h (kop c i).op = some (.p (some (l, o)), h1) := by exact step_P (evP_index rfl rfl rfl rfl rfl rfl (by omega))) (ho : o = o' := by simp only [Nat.zero_add, Nat.add_zero, Nat.reduceAdd, Nat.reduceMul, Nat.add_assoc, Nat.mul_one]; exact rfl) : WS Try.prog n N (rest c i :: k) (slt S) h Q := WS.poP (tb := tb) hi hd hf hw hs ho w
theorem jB (q : Bool) {x : Bool} (w : WS Try.prog n N (rest c (i + 1) :: k) (slt ((d, .b q) :: S)) h1 Q) (hi : Nat.blt i (kops c).toList.length = true := by exact rfl) (hd : (kop c i).dst = some d := by exact rfl) (hf : fitS n (kops c) (kop c i) S = true := by exact rfl) (hw : wantS (kops c) (kop c i) S = true := by exact rfl) (hs : step tb noCalls (evS S) h (kop c i).op = some (.b x, h1) := by exact rfl) (hx : x = q := by exact rfl) : WS Try.prog n N (rest c i :: k) (slt S) h Q := WS.poB (tb := tb) q hi hd hf hw hs hx w
theorem jDT (w : WS Try.prog n N (rest c (i + 1) :: k) (slt ((d, .b true) :: S)) h1 Q) (hi : Nat.blt i (kops c).toList.length = true := by exact rfl) (hd : (kop c i).dst = some d := by exact rfl) (hf : fitS n (kops c) (kop c i) S = true := by exact rfl) (hw : wantS (kops c) (kop c i) S = true := by exact rfl) (hs : step tb noCalls (evS S) h (kop c i).op = some (.b (decide p), h1) := by exact rfl) (hp : p := by omega) : WS Try.prog n N (rest c i :: k) (slt S) h Q := WS.poDT (tb := tb) hi hd hf hw hs hp w
theorem jDF (w : WS Try.prog n N (rest c (i + 1) :: k) (slt ((d, .b false) :: S)) h1 Q) (hi : Nat.blt i (kops c).toList.length = true := by exact rfl) (hd : (kop c i).dst = some d := by exact rfl) (hf : fitS n (kops c) (kop c i) S = true := by exact rfl) (hw : wantS (kops c) (kop c i) S = true := by exact rfl) (hs : step tb noCalls (evS S) h (kop c i).op = some (.b (decide p), h1) := by exact rfl) (hp : ¬ p := by omega) : WS Try.prog n N (rest c i :: k) (slt S) h Q := WS.poDF (tb := tb) hi hd hf hw hs hp w
theorem jET (w : WS Try.prog n N (rest c (i + 1) :: k) (slt ((d, .b true) :: S)) h1 Q) (hi : Nat.blt i (kops c).toList.length = true := by exact rfl) (hd : (kop c i).dst = some d := by exact rfl) (hf : fitS n (kops c) (kop c i) S = true := by exact rfl) (hw : wantS (kops c) (kop c i) S = true := by exact rfl) (hs : step tb noCalls (evS S) h (kop c i).op = some (.b (a == b), h1) := by exact rfl) (hp : a = b := by omega) : WS Try.prog n N (rest c i :: k) (slt S) h Q := WS.poET (tb := tb) hi hd hf hw hs hp w
theorem jEF (w : WS Try.prog n N (rest c (i + 1) :: k) (slt ((d, .b false) :: S)) h1 Q) (hi : Nat.blt i (kops c).toList.length = true := by exact rfl) (hd : (kop c i).dst = some d := by exact rfl) (hf : fitS n (kops c) (kop c i) S = true := by exact rfl) (hw : wantS (kops c) (kop c i) S = true := by exact rfl) (hs : step tb noCalls (evS S) h (kop c i).op = some (.b (a == b), h1) := by exact rfl) (hp : ¬ a = b := by omega) : WS Try.prog n N (rest c i :: k) (slt S) h Q := WS.poEF (tb := tb) hi hd hf hw hs hp w
theorem jNT (w : WS Try.prog n N (rest c (i + 1) :: k) (slt ((d, .b true) :: S)) h1 Q) (hi : Nat.blt i (kops c).toList.length = true := by exact rfl) (hd : (kop c i).dst = some d := by exact rfl) (hf : fitS n (kops c) (kop c i) S = true := by exact rfl) (hw : wantS (kops c) (kop c i) S = true := by exact rfl) (hs : step tb noCalls (evS S) h (kop c i).op = some (.b (a != b), h1) := by exact rfl) (hp : ¬ a = b := by omega) : WS Try.prog n N (rest c i :: k) (slt S) h Q := WS.poNT (tb := tb) hi hd hf hw hs hp w
theorem jNF (w : WS Try.prog n N (rest c (i + 1) :: k) (slt ((d, .b false) :: S)) h1 Q) (hi : Nat.blt i (kops c).toList.length = true := by exact rfl) (hd : (kop c i).dst = some d := by exact rfl) (hf : fitS n (kops c) (kop c i) S = true := by exact rfl) (hw : wantS (kops c) (kop c i) S = true := by exact rfl) (hs : step tb noCalls (evS S) h (kop c i).op = some (.b (a != b), h1) := by exact rfl) (hp : a = b := by omega) : WS Try.prog n N (rest c i :: k) (slt S) h Q := WS.poNF (tb := tb) hi hd hf hw hs hp w
theorem jn {ro : Nat} {M1 M2 : List (Option Blk)} {b : Blk} {v2 : V} (w : WS Try.prog n N (rest c (i + 1) :: k) (slt ((d, v2) :: S)) (mem ro M2) Q) (hi : Nat.blt i (kops c).toList.length = true := by exact rfl) (hd : (kop c i).dst = some d := by exact rfl) (hf : fitS n (kops c) (kop c i) S = true := by exact rfl) (hw : wantS (kops c) (kop c i) S = true := by exact rfl) (hs : step tb noCalls (evS S) h (kop c i).op = some (v, h1) := by exact rfl) (hu : h1 = (mem ro M1).new b := by exact rfl) (hv : v = v2 := by simp only [ll, vcells, mem_next, Nat.zero_add, Nat.zero_mul, Nat.reduceAdd, Nat.reduceMul]; exact rfl) (hM : M1 ++ [some b] = M2 := by simp only [ll, vcells, mem_next, Nat.zero_add, Nat.zero_mul, Nat.reduceAdd, reps, setL, Nat.reduceMul]; exact rfl) : WS Try.prog n N (rest c i :: k) (slt S) h Q := WS.po (tb := tb) hi hd hf hw hs (hv ▸ WS.mem_eq (hu.trans ((new_mem _ _ _).trans (congrArg (mem _) hM))) w)
theorem js {ro l : Nat} {M1 M2 : List (Option Blk)} {b : Option Blk} (w : WS Try.prog n N (rest c (i + 1) :: k) (slt S) (mem ro M2) Q) (hi : Nat.blt i (kops c).toList.length = true := by exact rfl) (hd : (kop c i).dst = none := by exact rfl) (hf : fitS n (kops c) (kop c i) S = true := by exact rfl) (hw : wantS (kops c) (kop c i) S = true := by exact rfl) (hs : step tb noCalls (evS S) h (kop c i).op = some (v, h1) := by exact step_H rfl rfl (evH_store rfl rfl rfl rfl rfl (Nat.zero_le _) rfl (by simp [vcells]) (Nat.le_of_ble_eq_true rfl))) (hu : h1 = (mem ro M1).upd l b := by exact rfl) (hl : Nat.blt l M1.length = true := by exact rfl) (hM : M1.set l b = M2 := by simp only [vcells, setL, ll]; exact rfl) : WS Try.prog n N (rest c i :: k) (slt S) h Q := WS.po0 (tb := tb) hi hd hf hw hs (WS.mem_eq (hu.trans ((upd_mem _ hl).trans (congrArg (mem _) hM))) w)
theorem jN (w : WS Try.prog n N (rest c (i + 1) :: k) (slt ((d, .tup []) :: S)) h Q) (hi : Nat.blt i (kops c).toList.length = true := by exact rfl) (hd : (kop c i).dst = some d := by exact rfl) (hf : fitS n (kops c) (kop c i) S = true := by exact rfl) (hw : wantS (kops c) (kop c i) S = false := by exact rfl) : WS Try.prog n N (rest c i :: k) (slt S) h Q := WS.pono hi hd hf hw w
theorem jc {g : FuncId} {vs vs' : List V} {M MM : List (Option Blk)} {Qf : V → List (Option Blk) → Prop} (L : List Nat) (hg : FM Try.prog g vs M Qf) (hok : okL M.length vs) (hp : embP (fun i => L.getD i 0) (mem 0 MM) M.length 0 M)
  (w : ∀ v M', Qf v M' → M.length ≤ M'.length → WS Try.prog n N (rest c (i + 1) :: k) (slt ((d, mapV (over (fun i => L.getD i 0) M.length MM.length) v) :: S)) (mem 0 (plugL MM.length L M M' MM)) Q)
  (hi : Nat.blt i (kops c).toList.length = true := by exact rfl) (hd : (kop c i).dst = some d := by exact rfl) (hf : fitS n (kops c) (kop c i) S = true := by exact rfl) (hw : wantS (kops c) (kop c i) S = true := by exact rfl) (hc : evCall tb (evS S) (kop c i).op = some (g, vs') := by exact rfl) (hvs : mapL (fun i => L.getD i 0) vs = vs' := by (try simp only [mapL, mapV, ll]) <;> exact rfl) (hL : Nat.beq L.length M.length = true := by exact rfl) (ho : own2 (fun i => L.getD i 0) M = true := by exact rfl) : WS Try.prog n N (rest c i :: k) (slt S) (mem 0 MM) Q := WS.pcallM (tb := tb) L hg hi hd hf hw hc hvs hok hL hp ho w
theorem je (w : WS Try.prog n N k (slt S) h Q) (hi : Nat.ble (kops c).toList.length i = true := by exact rfl) : WS Try.prog n N (rest c i :: k) (slt S) h Q := WS.pend hi w
theorem jq (w : WS Try.prog n N (.c (k1 c) :: .c (k2 c) :: k) (slt S) h Q) (hk : kind c = 1 := by exact rfl) : WS Try.prog n N (.c c :: k) (slt S) h Q := WS.pseq hk w
theorem jg (w : WS Try.prog n N (rest c 0 :: k) (slt S) h Q) (hk : kind c = 5 := by exact rfl) : WS Try.prog n N (.c c :: k) (slt S) h Q := WS.pregion hk w
end

end Go.Proofs.Ytnogdgdkeojlpaa.Am
