-- By a program of this session (NOTES.md). Lean checks it.
import Derived.Test.YtnogokemjcfaoaaRows
import Derived.Test.YtnogokemjcfaoaaPBlocksVictimx6
import Derived.Test.YtnogokemjcfaoaaPureBlocksVictim
import Derived.WalkKit
import Derived.ProofKit
import Derived.OpenShut
import Derived.ShutString
import Derived.ChangeOld
import Derived.Below
import Derived.SizedLaws
import Derived.Deep.Slices
import Derived.Lib.SmallJoins
import Derived.Test.YtnogokemjcfaoaaWSized
namespace Go.Proofs.Ytnogokemjcfaoaa.blocksVictim
open Go.ChangeShapes Go.WideShapes Go.ChangeAt Go.RowKit
open Go.ChangeMaps (open_string shut_string)
open Go.Proofs.Ytnogokemjcfaoaa.PBlocksVictim Go.Proofs.YtnogokemjcfaoaaW.PrintWords
set_option linter.unusedVariables false
theorem own : ownKnob Try.prog.godebug = none := by kernel_rfl
theorem laidOut : laidOutB Try.prog = true := by kernel_rfl
def IsRow (k : IntKind) (w : World) (a : Option Addr) (len cap : Nat) (zs : List Int) : Prop :=
  (a = none ∧ len = 0 ∧ cap = 0 ∧ zs = []) ∨
  ∃ x, a = some x ∧ len ≤ cap ∧ cap ≤ maxLen ∧ zs.length = cap ∧ (∀ i, i < zs.length → w.cell? (x.add i) = some (.int k (zs.getD i 0))) ∧ ∀ n ∈ zs, (Lit.int k n).wf = true

theorem glue {H : Type} {enc : TypeId × Value → H} {P : Program} {W : World} {base : Nat} {sp : Nat → Bool} {hd : Bool} {t e : TypeId} {α : Type} [Inhabited α] (d : Kd α) (good : α → Prop) {a : Option Addr} {len cap : Nat} {D : DataW H} {ps : List MemPlace} {ts : List TypeId} {ds : List (DataW H)} {j : Nat}
    (hsz : (DataW.weightsEach P ts ds).all (· ≤ reachBytes) = true) (ht : ts[j]? = some t) (hd' : ds[j]? = some D) (hu : P.underlying t = some (.slice e)) {B : Nat} (hB : P.bytesOf e = B) (hc : P.cellsOf e = d.sz)
    (el : ∀ n cs x, DataW.trod enc P W base sp hd n e cs = some x → ∃ y, good y ∧ d.K W y cs)
    (h : DataW.Trod enc P W base sp hd t (.slice a len cap) D ps) :
    ∃ l : List α, len = l.length ∧ d.C W a l.length l ∧ l.length ≤ cap ∧ l.length ≤ maxLen ∧ l.length * B ≤ 140737488351232 ∧ ∀ x ∈ l, good x := by
  obtain ⟨fuel, hf⟩ := h
  rcases Go.Deep.open_slice hu hf with ⟨hcs, hx⟩ | ⟨ad, l, c, m, n, DD, Pl, hcs, hb, hl, hm, hmm, hx, hel⟩
  · simp [Value.cells] at hcs
    obtain ⟨rfl, rfl, rfl⟩ := hcs
    exact ⟨[], rfl, ⟨rfl, by simp, fun h => absurd h (by simp)⟩, by simp, by simp, by simp, by simp⟩
  · simp [Value.cells] at hcs
    obtain ⟨rfl, rfl, rfl⟩ := hcs
    have hlm : len ≤ m := by rw [hmm]; split <;> omega
    obtain ⟨f, hfx⟩ := Go.Deep.choose_lt (n := len) (p := fun i (y : α) => good y ∧ ∃ cs', W.cells? base (ad.add (i * P.cellsOf e)) (P.cellsOf e) = some cs' ∧ d.K W y cs') (fun i hi => by
      obtain ⟨cs', h1, h2⟩ := hel i (by omega)
      obtain ⟨y, g, hk⟩ := el _ _ _ h2
      exact ⟨y, g, cs', h1, hk⟩)
    obtain ⟨hD, _⟩ := Prod.mk.inj hx
    subst hD
    have z := sized_slice hsz ht hd' hu
    rw [hB] at z
    simp only [List.length_map, List.length_range] at z
    have hmx : (maxLen : Nat) ≤ 9223372036854775807 := by decide
    refine ⟨(List.range len).map f, by simp, ⟨by simp, by simp; omega, fun _ => ⟨ad, rfl, ?_⟩⟩, by simpa using hl, by simp; omega, ?_, ?_⟩
    · intro j p hj
      have hjl : j < len := by
        rcases Nat.lt_or_ge j len with h' | h'
        · exact h'
        · rw [List.getElem?_eq_none (by simpa using h')] at hj; cases hj
      simp [hjl] at hj
      subst hj
      obtain ⟨_, cs', h1, hk⟩ := hfx j hjl
      obtain ⟨_, hlen, hcell⟩ := World.cells?_some h1
      rw [hc] at hlen hcell
      refine ⟨cs', hlen, hk, fun i u hu' => ?_⟩
      have hil : i < d.sz := by
        rw [← hlen]
        rcases Nat.lt_or_ge i cs'.length with h' | h'
        · exact h'
        · rw [List.getElem?_eq_none h'] at hu'; cases hu'
      have := hcell i hil
      rw [Go.Deep.add_add] at this
      rw [this, hu']
    · simp only [List.length_map, List.length_range]
      refine Nat.le_trans (Nat.mul_le_mul_right _ (Nat.le_add_right _ _)) z
    · intro x hx
      obtain ⟨i, hi, rfl⟩ := List.mem_map.1 hx
      exact (hfx i (List.mem_range.1 hi)).1

set_option maxRecDepth 100000 in
theorem lifted (os : Os) (started : os.Started) (H : Type) (enc : TypeId × Value → H) :
    ReturnsInHanded {} Try.checked os 5 .any (Rows.blocksVictimSpec.pre6 enc Try.prog Try.f5 Rows.blocksVictimRow.domain false) (Rows.blocksVictimSpec.post enc Try.prog Try.f5 false true false false) := by
  refine returnsInHanded_of_change_sized (C := Try.checked) own started (by kernel_rfl) Try.func5
    (ChangeSpec.witness6 (enc := enc) (C := Try.checked) false ⟨#[], #[.slice none 0 0, .slice none 0 0], []⟩ 8 (by kernel_rfl) (by kernel_rfl) (by kernel_rfl) (by kernel_rfl)) ?_
  intro W base args ds gs before hval0 hW hcnd hsz0 _
  have hsz : (DataW.weightsEach Try.prog (Try.f5.params.toList ++ Rows.blocksVictimSpec.plain.varTypes Try.prog) (ds ++ gs)).all (· ≤ reachBytes) = true := hsz0
  have hval : ∀ (j : Nat) t v, Try.f5.params[j]? = some t → args[j]? = some v → Value.okWide Try.prog W .any base t v := hval0
  have hW' := hW
  obtain ⟨p, q, hA0, hV, rfl, hfz, hnd⟩ := hW
  have hA : DataW.TrodAll enc Try.prog W 0 (fun _ => true) true Try.f5.params.toList args.toList ds p := hA0
  rw [Try.params5] at hA hval hsz
  obtain ⟨v0, vs0, d0, ds0, p0, q0, hargs, rfl, rfl, h0, r0⟩ := trodAll_cons hA
  obtain ⟨v1, vs1, d1, ds1, p1, q1, rfl, rfl, rfl, h1, r1⟩ := trodAll_cons r0
  obtain ⟨rfl, rfl, rfl⟩ := trodAll_nil r1
  obtain rfl : args = #[v0, v1] := by cases args; simp_all
  obtain ⟨rfl, rfl⟩ := trodVars_none hV
  obtain ⟨a0, len0, cap0, rfl⟩ := okWide_slice Try.underlying23 (hval 0 23 v0 rfl rfl)
  have k0 := h0
  have lt0 : ∀ x ∈ p0, x.block < W.heap.size := by obtain ⟨m, hm⟩ := k0; exact DataW.trod_lt m _ _ _ hm
  obtain ⟨z0, w0⟩ : ∃ zs, IsRow .i64 W a0 len0 cap0 zs := by
    obtain ⟨fuel, hf⟩ := h0
    rcases open_ints Try.underlying23 Try.underlying3 (by kernel_rfl) hf with ⟨hcs, _⟩ | ⟨x, l, c, zs, hcs, _, hl, hm, hz, _, hcell, hwz⟩
    · simp [Value.cells] at hcs
      obtain ⟨rfl, rfl, rfl⟩ := hcs
      exact ⟨[], .inl ⟨rfl, rfl, rfl, rfl⟩⟩
    · simp [Value.cells] at hcs
      obtain ⟨rfl, rfl, rfl⟩ := hcs
      exact ⟨zs, .inr ⟨_, rfl, hl, hm, by simpa using hz, hcell, hwz⟩⟩
  have y0 : len0 * 8 ≤ 140737488351232 := Go.Proofs.YtnogokemjcfaoaaW.PrintWords.sized_ints hsz (j := 0) (t := 23) rfl rfl Try.underlying23 Try.underlying3 (by kernel_rfl) (by kernel_rfl) h0
  have k1 := h1
  have lt1 : ∀ x ∈ p1, x.block < W.heap.size := by obtain ⟨m, hm⟩ := k1; exact DataW.trod_lt m _ _ _ hm
  obtain ⟨a1, len1, cap1, rfl⟩ := okWide_slice Try.underlying33 (hval 1 33 v1 rfl rfl)
  obtain ⟨l1, rfl, hr1, hc1, hm1, y1, w1⟩ := glue (Kd.bool) (fun _ => True) hsz (j := 1) (t := 33) rfl rfl Try.underlying33 (B := 1) (by kernel_rfl) (by kernel_rfl) (fun n cs x h => by obtain ⟨b, rfl, _⟩ := DataW.trod_bool Try.underlying4 h; exact ⟨b, trivial, rfl⟩) h1
  clear hA0 hval0 hsz0 hsz
  refine (PBlocksVictim.ferrulelaw13_BlocksVictim.walk Pure.BlocksVictim a0 len0 cap0 z0 a1 cap1 l1 W w0 y0 hr1 hc1 hm1 y1).mono fun e W' ⟨he, bel⟩ => ?_
  subst he
  exact ⟨_, rfl, _, _, _, [], _, [], hW', trodAll_mk1 (shut_bool Try.underlying4 _), (trodAll_cons_mk (Below.trod laidOut (by kernel_rfl) (of_decide_eq_true (by kernel_rfl)) k0 bel lt0) (trodAll_cons_mk (Below.trod laidOut (by kernel_rfl) (of_decide_eq_true (by kernel_rfl)) k1 bel lt1) trodAll_mk0)), rfl, bel.frame _, fun h => by cases h⟩
theorem over : Rows.blocksVictimRow.holds Try.pinned (OpenSpec.ofChange Rows.blocksVictimSpec) :=
  OpenClaim.holds_of_wide 5 Try.f5 rfl rfl rfl rfl rfl rfl rfl ⟨rfl, rfl, rfl, rfl, rfl⟩ rfl rfl rfl rfl rfl (by kernel_rfl) Try.func5 (by kernel_rfl)
    (of_decide_eq_true (by kernel_rfl)) (by unfold Func.isWrapper; first | (rw [if_pos (by decide +kernel)]; kernel_rfl) | (rw [if_neg (by decide +kernel)]; exact ⟨rfl, rfl⟩))
    (fun os started H enc _ => lifted os started H enc)
theorem proved : Rows.BlocksVictimSaid := over
#print axioms proved
end Go.Proofs.Ytnogokemjcfaoaa.blocksVictim
namespace Go.Proofs.Ytnogokemjcfaoaa
/-- The row, under a short name, for the claim. -/
theorem blocksVictim_holds : Rows.BlocksVictimSaid := blocksVictim.proved
end Go.Proofs.Ytnogokemjcfaoaa
