-- By a program of this session (NOTES.md). Lean checks it.
import Derived.Test.YtigecigoomofdaaRows
import Derived.Test.YtigecigoomofdaaPWindowTellsx12
import Derived.Test.YtigecigoomofdaaPureWindowTells
import Derived.WalkKit
import Derived.ProofKit
import Derived.OpenShut
import Derived.ShutString
import Derived.ChangeOld
import Derived.Below
import Derived.SizedLaws
import Derived.Deep.Slices
import Derived.Lib.SmallJoins
import Derived.Test.YtigecigoomofdaaWSized
namespace Go.Proofs.Ytigecigoomofdaa.windowTells
open Go.ChangeShapes Go.WideShapes Go.ChangeAt Go.RowKit
open Go.ChangeMaps (open_string shut_string)
open Go.Proofs.Ytigecigoomofdaa.PWindowTells Go.Proofs.YtigecigoomofdaaW.PrintWords
set_option linter.unusedVariables false
set_option linter.unusedSimpArgs false
theorem own : ownKnob Try.prog.godebug = none := by kernel_rfl
theorem laidOut : laidOutB Try.prog = true := by kernel_rfl
def IsRow (k : IntKind) (w : World) (a : Option Addr) (len cap : Nat) (zs : List Int) : Prop :=
  (a = none ∧ len = 0 ∧ cap = 0 ∧ zs = []) ∨
  ∃ x, a = some x ∧ len ≤ cap ∧ cap ≤ maxLen ∧ zs.length = cap ∧ (∀ i, i < zs.length → w.cell? (x.add i) = some (.int k (zs.getD i 0))) ∧ ∀ n ∈ zs, (Lit.int k n).wf = true

theorem glue {H : Type} {enc : TypeId × Value → H} {P : Program} {W : World} {base : Nat} {sp : Nat → Bool} {hd : Bool} {t e : TypeId} {α : Type} [Inhabited α] (d : Kd α) (good : α → Prop) {a : Option Addr} {len cap : Nat} {D : DataW H} {ps : List MemPlace} {ts : List TypeId} {ds : List (DataW H)} {j : Nat}
    (hsz : (DataW.weightsEach P ts ds).all (· ≤ reachBytes) = true) (ht : ts[j]? = some t) (hd' : ds[j]? = some D) (hu : P.underlying t = some (.slice e)) {B : Nat} (hB : P.bytesOf e = B) (hc : P.cellsOf e = d.sz)
    (el : ∀ n cs x, DataW.trod enc P W base sp hd n e cs = some x → ∃ y, good y ∧ d.K W y cs)
    (h : DataW.Trod enc P W base sp hd t (.slice a len cap) D ps) :
    ∃ l : List α, len = l.length ∧ d.C W a l.length l ∧ l.length ≤ cap ∧ l.length ≤ maxLen ∧ l.length * B ≤ 140737488351232 ∧ ∀ x ∈ l, good x := by
  obtain ⟨fuel, hf⟩ := h
  rcases Go.Deep.open_slice hu hf with ⟨hcs, hx⟩ | ⟨ad, l, c, m, n, DD, Pl, hcs, hb, hl, hm, hmm, hx, hel⟩
  · simp [Value.cells] at hcs
    obtain ⟨rfl, rfl, rfl⟩ := hcs
    exact ⟨[], rfl, ⟨rfl, by simp, fun h => absurd h (by simp)⟩, by simp, by simp, by simp, by simp⟩
  · simp [Value.cells] at hcs
    obtain ⟨rfl, rfl, rfl⟩ := hcs
    have hlm : len ≤ m := by rw [hmm]; split <;> omega
    obtain ⟨f, hfx⟩ := Go.Deep.choose_lt (n := len) (p := fun i (y : α) => good y ∧ ∃ cs', W.cells? base (ad.add (i * P.cellsOf e)) (P.cellsOf e) = some cs' ∧ d.K W y cs') (fun i hi => by
      obtain ⟨cs', h1, h2⟩ := hel i (by omega)
      obtain ⟨y, g, hk⟩ := el _ _ _ h2
      exact ⟨y, g, cs', h1, hk⟩)
    obtain ⟨hD, _⟩ := Prod.mk.inj hx
    subst hD
    have z := sized_slice hsz ht hd' hu
    rw [hB] at z
    simp only [List.length_map, List.length_range] at z
    have hmx : (maxLen : Nat) ≤ 9223372036854775807 := by decide
    refine ⟨(List.range len).map f, by simp, ⟨by simp, by simp; omega, fun _ => ⟨ad, rfl, ?_⟩⟩, by simpa using hl, by simp; omega, ?_, ?_⟩
    · intro j p hj
      have hjl : j < len := by
        rcases Nat.lt_or_ge j len with h' | h'
        · exact h'
        · rw [List.getElem?_eq_none (by simpa using h')] at hj; cases hj
      simp [hjl] at hj
      subst hj
      obtain ⟨_, cs', h1, hk⟩ := hfx j hjl
      obtain ⟨_, hlen, hcell⟩ := World.cells?_some h1
      rw [hc] at hlen hcell
      refine ⟨cs', hlen, hk, fun i u hu' => ?_⟩
      have hil : i < d.sz := by
        rw [← hlen]
        rcases Nat.lt_or_ge i cs'.length with h' | h'
        · exact h'
        · rw [List.getElem?_eq_none h'] at hu'; cases hu'
      have := hcell i hil
      rw [Go.Deep.add_add] at this
      rw [this, hu']
    · simp only [List.length_map, List.length_range]
      refine Nat.le_trans (Nat.mul_le_mul_right _ (Nat.le_add_right _ _)) z
    · intro x hx
      obtain ⟨i, hi, rfl⟩ := List.mem_map.1 hx
      exact (hfx i (List.mem_range.1 hi)).1

set_option maxRecDepth 100000 in
theorem el38 {H : Type} {enc : TypeId × Value → H} {W : World} {base : Nat} {sp : Nat → Bool} {hd : Bool} {fuel : Nat} {cs : List Value} {x : DataW H × List MemPlace} (h : DataW.trod enc Try.prog W base sp hd fuel 38 cs = some x) :
    ∃ y : S38, (fun y => (Lit.int .i64 y.f0).wf = true ∧ (Lit.int .i64 y.f1).wf = true ∧ (Lit.int .i64 y.f2).wf = true) y ∧ cs = [.int .i64 y.f0, .int .i64 y.f1, .int .i64 y.f2] := by
  have hC : Try.prog.cellsOf 38 = 3 := by kernel_rfl
  have c3 : Try.prog.cellsOf 3 = 1 := by kernel_rfl
  obtain ⟨xs, k, hk, hxy, hcs, hxl, hf⟩ := DataW.trod_struct Try.underlying38 h
  rw [hC] at hcs
  have hxl' : xs.length = 3 := hxl
  clear hxl hxy
  match xs, hxl', cs, hcs with
  | [y0, y1, y2], _, [v0, v1, v2], _ =>
    have g0 := hf 0 _ rfl
    simp [c3] at g0
    have g1 := hf 1 _ rfl
    simp [c3] at g1
    have g2 := hf 2 _ rfl
    simp [c3] at g2
    obtain ⟨n0, e0, _, w0⟩ := DataW.trod_int Try.underlying3 g0
    simp only [List.cons.injEq, and_true] at e0
    subst e0
    obtain ⟨n1, e1, _, w1⟩ := DataW.trod_int Try.underlying3 g1
    simp only [List.cons.injEq, and_true] at e1
    subst e1
    obtain ⟨n2, e2, _, w2⟩ := DataW.trod_int Try.underlying3 g2
    simp only [List.cons.injEq, and_true] at e2
    subst e2
    exact ⟨⟨n0, n1, n2⟩, ⟨w0, w1, w2⟩, rfl⟩
set_option maxRecDepth 100000 in
theorem el39 {H : Type} {enc : TypeId × Value → H} {W : World} {base : Nat} {sp : Nat → Bool} {hd : Bool} {fuel : Nat} {cs : List Value} {x : DataW H × List MemPlace} (h : DataW.trod enc Try.prog W base sp hd fuel 39 cs = some x) :
    ∃ y : S39, (fun y => (Lit.int .i64 y.f0).wf = true ∧ (Lit.int .i64 y.f1).wf = true ∧ (Lit.int .i64 y.f2).wf = true) y ∧ cs = [.int .i64 y.f0, .int .i64 y.f1, .int .i64 y.f2] := by
  have hC : Try.prog.cellsOf 39 = 3 := by kernel_rfl
  have c3 : Try.prog.cellsOf 3 = 1 := by kernel_rfl
  obtain ⟨xs, k, hk, hxy, hcs, hxl, hf⟩ := DataW.trod_struct Try.underlying39 h
  rw [hC] at hcs
  have hxl' : xs.length = 3 := hxl
  clear hxl hxy
  match xs, hxl', cs, hcs with
  | [y0, y1, y2], _, [v0, v1, v2], _ =>
    have g0 := hf 0 _ rfl
    simp [c3] at g0
    have g1 := hf 1 _ rfl
    simp [c3] at g1
    have g2 := hf 2 _ rfl
    simp [c3] at g2
    obtain ⟨n0, e0, _, w0⟩ := DataW.trod_int Try.underlying3 g0
    simp only [List.cons.injEq, and_true] at e0
    subst e0
    obtain ⟨n1, e1, _, w1⟩ := DataW.trod_int Try.underlying3 g1
    simp only [List.cons.injEq, and_true] at e1
    subst e1
    obtain ⟨n2, e2, _, w2⟩ := DataW.trod_int Try.underlying3 g2
    simp only [List.cons.injEq, and_true] at e2
    subst e2
    exact ⟨⟨n0, n1, n2⟩, ⟨w0, w1, w2⟩, rfl⟩
instance : Inhabited S38 := ⟨z38⟩
instance : Inhabited S39 := ⟨z39⟩
set_option maxRecDepth 100000 in
theorem lifted (os : Os) (started : os.Started) (H : Type) (enc : TypeId × Value → H) :
    ReturnsInHanded {} Try.checked os 4 .any (Rows.windowTellsSpec.pre6 enc Try.prog Try.f4 Rows.windowTellsRow.domain false) (Rows.windowTellsSpec.post enc Try.prog Try.f4 false true false false) := by
  refine returnsInHanded_of_change_sized (C := Try.checked) own started (by kernel_rfl) Try.func4
    (ChangeSpec.witness6 (enc := enc) (C := Try.checked) false ⟨#[], #[.slice none 0 0, .slice none 0 0, .int .i64 0, .int .i64 0, .int .i64 0, .int .i64 0], []⟩ 8 (by kernel_rfl) (by kernel_rfl) (by kernel_rfl) (by kernel_rfl)) ?_
  intro W base args ds gs before hval0 hW hcnd hsz0 _
  have hsz : (DataW.weightsEach Try.prog (Try.f4.params.toList ++ Rows.windowTellsSpec.plain.varTypes Try.prog) (ds ++ gs)).all (· ≤ reachBytes) = true := hsz0
  have hval : ∀ (j : Nat) t v, Try.f4.params[j]? = some t → args[j]? = some v → Value.okWide Try.prog W .any base t v := hval0
  have hW' := hW
  obtain ⟨p, q, hA0, hV, rfl, hfz, hnd⟩ := hW
  have hA : DataW.TrodAll enc Try.prog W 0 (fun _ => true) true Try.f4.params.toList args.toList ds p := hA0
  rw [Try.params4] at hA hval hsz
  obtain ⟨v0, vs0, d0, ds0, p0, q0, hargs, rfl, rfl, h0, r0⟩ := trodAll_cons hA
  obtain ⟨v1, vs1, d1, ds1, p1, q1, rfl, rfl, rfl, h1, r1⟩ := trodAll_cons r0
  obtain ⟨v2, vs2, d2, ds2, p2, q2, rfl, rfl, rfl, h2, r2⟩ := trodAll_cons r1
  obtain ⟨v3, vs3, d3, ds3, p3, q3, rfl, rfl, rfl, h3, r3⟩ := trodAll_cons r2
  obtain ⟨v4, vs4, d4, ds4, p4, q4, rfl, rfl, rfl, h4, r4⟩ := trodAll_cons r3
  obtain ⟨v5, vs5, d5, ds5, p5, q5, rfl, rfl, rfl, h5, r5⟩ := trodAll_cons r4
  obtain ⟨rfl, rfl, rfl⟩ := trodAll_nil r5
  obtain rfl : args = #[v0, v1, v2, v3, v4, v5] := by cases args; simp_all
  obtain ⟨rfl, rfl⟩ := trodVars_none hV
  have k0 := h0
  have lt0 : ∀ x ∈ p0, x.block < W.heap.size := by obtain ⟨m, hm⟩ := k0; exact DataW.trod_lt m _ _ _ hm
  obtain ⟨a0, len0, cap0, rfl⟩ := okWide_slice Try.underlying27 (hval 0 27 v0 rfl rfl)
  obtain ⟨l0, rfl, hr0, hc0, hm0, y0, w0⟩ := glue (k39) (fun y => (Lit.int .i64 y.f0).wf = true ∧ (Lit.int .i64 y.f1).wf = true ∧ (Lit.int .i64 y.f2).wf = true) hsz (j := 0) (t := 27) rfl rfl Try.underlying27 (B := 24) (by kernel_rfl) (by kernel_rfl) (fun n cs x h => by obtain ⟨y, g, rfl⟩ := el39 h; exact ⟨y, g, k39_mk W y⟩) h0
  have k1 := h1
  have lt1 : ∀ x ∈ p1, x.block < W.heap.size := by obtain ⟨m, hm⟩ := k1; exact DataW.trod_lt m _ _ _ hm
  obtain ⟨a1, len1, cap1, rfl⟩ := okWide_slice Try.underlying23 (hval 1 23 v1 rfl rfl)
  obtain ⟨l1, rfl, hr1, hc1, hm1, y1, w1⟩ := glue (k38) (fun y => (Lit.int .i64 y.f0).wf = true ∧ (Lit.int .i64 y.f1).wf = true ∧ (Lit.int .i64 y.f2).wf = true) hsz (j := 1) (t := 23) rfl rfl Try.underlying23 (B := 24) (by kernel_rfl) (by kernel_rfl) (fun n cs x h => by obtain ⟨y, g, rfl⟩ := el38 h; exact ⟨y, g, k38_mk W y⟩) h1
  obtain ⟨a2, rfl, rfl, rfl, w2⟩ := open_int Try.underlying3 (hval 2 3 v2 rfl rfl) h2
  obtain ⟨a3, rfl, rfl, rfl, w3⟩ := open_int Try.underlying3 (hval 3 3 v3 rfl rfl) h3
  obtain ⟨a4, rfl, rfl, rfl, w4⟩ := open_int Try.underlying3 (hval 4 3 v4 rfl rfl) h4
  obtain ⟨a5, rfl, rfl, rfl, w5⟩ := open_int Try.underlying3 (hval 5 3 v5 rfl rfl) h5
  clear hA0 hval0 hsz0 hsz
  refine (PWindowTells.ferrulelaw15_WindowTells.walk Pure.WindowTells a0 cap0 l0 a1 cap1 l1 a2 a3 a4 a5 W hr0 hc0 hm0 y0 w0 hr1 hc1 hm1 y1 w1 w2 w3 w4 w5).mono fun e W' ⟨he, bel⟩ => ?_
  subst he
  exact ⟨_, rfl, _, _, _, [], _, [], hW', trodAll_mk1 (shut_bool Try.underlying4 _), (trodAll_cons_mk (Below.trod laidOut (by kernel_rfl) (of_decide_eq_true (by kernel_rfl)) k0 bel lt0) (trodAll_cons_mk (Below.trod laidOut (by kernel_rfl) (of_decide_eq_true (by kernel_rfl)) k1 bel lt1) (trodAll_cons_mk (shut_int Try.underlying3 w2) (trodAll_cons_mk (shut_int Try.underlying3 w3) (trodAll_cons_mk (shut_int Try.underlying3 w4) (trodAll_cons_mk (shut_int Try.underlying3 w5) trodAll_mk0)))))), rfl, bel.frame _, fun h => by cases h⟩
theorem over : Rows.windowTellsRow.holds Try.pinned (OpenSpec.ofChange Rows.windowTellsSpec) :=
  OpenClaim.holds_of_wide 4 Try.f4 rfl rfl rfl rfl rfl rfl rfl ⟨rfl, rfl, rfl, rfl, rfl⟩ rfl rfl rfl rfl rfl (by kernel_rfl) Try.func4 (by kernel_rfl)
    (of_decide_eq_true (by kernel_rfl)) (by unfold Func.isWrapper; first | (rw [if_pos (by decide +kernel)]; kernel_rfl) | (rw [if_neg (by decide +kernel)]; exact ⟨rfl, rfl⟩))
    (fun os started H enc _ => lifted os started H enc)
theorem proved : Rows.WindowTellsSaid := over
#print axioms proved
end Go.Proofs.Ytigecigoomofdaa.windowTells
namespace Go.Proofs.Ytigecigoomofdaa
/-- The row, under a short name, for the claim. -/
theorem windowTells_holds : Rows.WindowTellsSaid := windowTells.proved
end Go.Proofs.Ytigecigoomofdaa
