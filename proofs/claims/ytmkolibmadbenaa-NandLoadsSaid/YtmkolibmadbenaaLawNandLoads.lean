/- Load accepts a flash's own image and refuses one with a page's mark broken. No conditions. -/
import Derived.Test.YtmkolibmadbenaaRows
import Derived.Test.YtmkolibmadbenaaNl13
import Derived.WalkKit
import Derived.ProofKit
import Derived.OpenShut
import Derived.ShutString
import Derived.ChangeOld
import Derived.Below
import Derived.SizedLaws
import Derived.Deep.Slices
namespace Go.Proofs.Ytmkolibmadbenaa.nandLoads
open Go.ChangeShapes Go.WideShapes Go.ChangeAt Go.RowKit
open Go.ChangeMaps (open_string shut_string)
set_option linter.unusedVariables false
set_option linter.unusedSimpArgs false
theorem own : ownKnob Try.prog.godebug = none := by kernel_rfl
theorem laidOut : laidOutB Try.prog = true := by kernel_rfl
set_option maxRecDepth 100000 in
theorem el_Act {H : Type} {enc : TypeId × Value → H} {W : World} {base : Nat} {sp : Nat → Bool} {hd : Bool} {fuel : Nat} {cs : List Value} {x : DataW H × List MemPlace} (h : DataW.trod enc Try.prog W base sp hd fuel 38 cs = some x) :
    ∃ y : Am.Act, ((Lit.int .i64 y.op).wf = true ∧ (Lit.int .i64 y.a).wf = true ∧ (Lit.int .i64 y.short).wf = true ∧ (Lit.int .u8 y.fill).wf = true) ∧ cs = Am.conL Am.r0 (Am.rwAct.enc y) := by
  have hC : Try.prog.cellsOf 38 = 4 := by kernel_rfl
  have c3 : Try.prog.cellsOf 3 = 1 := by kernel_rfl
  have c5 : Try.prog.cellsOf 5 = 1 := by kernel_rfl
  obtain ⟨xs, k, hk, hxy, hcs, hxl, hf⟩ := DataW.trod_struct Try.underlying38 h
  rw [hC] at hcs
  have hxl' : xs.length = 4 := hxl
  clear hxl hxy
  match xs, hxl', cs, hcs with
  | [y0, y1, y2, y3], _, [v0, v1, v2, v3], _ =>
    have g0 := hf 0 _ rfl
    simp [c3, c5] at g0
    have g1 := hf 1 _ rfl
    simp [c3, c5] at g1
    have g2 := hf 2 _ rfl
    simp [c3, c5] at g2
    have g3 := hf 3 _ rfl
    simp [c3, c5] at g3
    obtain ⟨n0, e0, _, w0⟩ := DataW.trod_int Try.underlying3 g0
    simp only [List.cons.injEq, and_true] at e0
    subst e0
    obtain ⟨n1, e1, _, w1⟩ := DataW.trod_int Try.underlying3 g1
    simp only [List.cons.injEq, and_true] at e1
    subst e1
    obtain ⟨n2, e2, _, w2⟩ := DataW.trod_int Try.underlying3 g2
    simp only [List.cons.injEq, and_true] at e2
    subst e2
    obtain ⟨n3, e3, _, w3⟩ := DataW.trod_int Try.underlying5 g3
    simp only [List.cons.injEq, and_true] at e3
    subst e3
    exact ⟨⟨n0, n1, n2, n3⟩, ⟨w0, w1, w2, w3⟩, rfl⟩
instance : Inhabited Am.Act := ⟨⟨0, 0, 0, 0⟩⟩
set_option maxRecDepth 100000 in
theorem lifted (os : Os) (started : os.Started) (H : Type) (enc : TypeId × Value → H) :
    ReturnsInHanded {} Try.checked os 7 .any (Rows.nandLoadsSpec.pre6 enc Try.prog Try.f7 Rows.nandLoadsRow.domain false) (Rows.nandLoadsSpec.post enc Try.prog Try.f7 false true false false) := by
  refine returnsInHanded_of_change_sized (C := Try.checked) own started (by kernel_rfl) Try.func7
    (ChangeSpec.witness6 (enc := enc) (C := Try.checked) false ⟨#[], #[.int .i64 0, .int .i64 0, .slice none 0 0, .int .i64 0, .int .u8 0, .agg #[.int .i64 0, .int .i64 0, .int .i64 0, .int .u8 0]], []⟩ 8 (by kernel_rfl) (by kernel_rfl) (by kernel_rfl) (by kernel_rfl)) ?_
  intro W base args ds gs before hval0 hW hcnd hsz0 _
  have hsz : (DataW.weightsEach Try.prog (Try.f7.params.toList ++ Rows.nandLoadsSpec.plain.varTypes Try.prog) (ds ++ gs)).all (· ≤ reachBytes) = true := hsz0
  have hval : ∀ (j : Nat) t v, Try.f7.params[j]? = some t → args[j]? = some v → Value.okWide Try.prog W .any base t v := hval0
  have hW' := hW
  obtain ⟨p, q, hA0, hV, rfl, hfz, hnd⟩ := hW
  have hA : DataW.TrodAll enc Try.prog W 0 (fun _ => true) true Try.f7.params.toList args.toList ds p := hA0
  rw [Try.params7] at hA hval hsz
  obtain ⟨v0, vs0, d0, ds0, p0, q0, hargs, rfl, rfl, h0, r0⟩ := trodAll_cons hA
  obtain ⟨v1, vs1, d1, ds1, p1, q1, rfl, rfl, rfl, h1, r1⟩ := trodAll_cons r0
  obtain ⟨v2, vs2, d2, ds2, p2, q2, rfl, rfl, rfl, h2, r2⟩ := trodAll_cons r1
  obtain ⟨v3, vs3, d3, ds3, p3, q3, rfl, rfl, rfl, h3, r3⟩ := trodAll_cons r2
  obtain ⟨v4, vs4, d4, ds4, p4, q4, rfl, rfl, rfl, h4, r4⟩ := trodAll_cons r3
  obtain ⟨v5, vs5, d5, ds5, p5, q5, rfl, rfl, rfl, h5, r5⟩ := trodAll_cons r4
  obtain ⟨rfl, rfl, rfl⟩ := trodAll_nil r5
  obtain rfl : args = #[v0, v1, v2, v3, v4, v5] := by cases args; simp_all
  obtain ⟨rfl, rfl⟩ := trodVars_none hV
  obtain ⟨a0, rfl, rfl, rfl, w0⟩ := open_int Try.underlying3 (hval 0 3 v0 rfl rfl) h0
  obtain ⟨a1, rfl, rfl, rfl, w1⟩ := open_int Try.underlying3 (hval 1 3 v1 rfl rfl) h1
  have k2 := h2
  have lt2 : ∀ x ∈ p2, x.block < W.heap.size := by obtain ⟨m, hm⟩ := k2; exact DataW.trod_lt m _ _ _ hm
  obtain ⟨a2, len2, cap2, rfl⟩ := okWide_slice Try.underlying34 (hval 2 34 v2 rfl rfl)
  obtain ⟨l2, rfl, hr2, hc2, hm2, y2, w2⟩ := Am.glueR Am.rwAct (fun y => (Lit.int .i64 y.op).wf = true ∧ (Lit.int .i64 y.a).wf = true ∧ (Lit.int .i64 y.short).wf = true ∧ (Lit.int .u8 y.fill).wf = true) hsz (j := 2) (t := 34) rfl rfl Try.underlying34 (B := 32) (by kernel_rfl) (by kernel_rfl) (fun n cs x h => el_Act h) h2
  obtain ⟨a3, rfl, rfl, rfl, w3⟩ := open_int Try.underlying3 (hval 3 3 v3 rfl rfl) h3
  obtain ⟨a4, rfl, rfl, rfl, w4⟩ := open_int Try.underlying5 (hval 4 5 v4 rfl rfl) h4
  have k5 := h5
  have lt5 : ∀ x ∈ p5, x.block < W.heap.size := by obtain ⟨m, hm⟩ := k5; exact DataW.trod_lt m _ _ _ hm
  obtain ⟨cs5, rfl, hz5⟩ := okWide_struct Try.underlying38 (hval 5 38 v5 rfl rfl)
  obtain ⟨y5, w5, hl5⟩ : ∃ y : Am.Act, ((Lit.int .i64 y.op).wf = true ∧ (Lit.int .i64 y.a).wf = true ∧ (Lit.int .i64 y.short).wf = true ∧ (Lit.int .u8 y.fill).wf = true) ∧ cs5.toList = Am.conL Am.r0 (Am.rwAct.enc y) := by obtain ⟨f, hf⟩ := h5; exact el_Act hf
  obtain rfl : cs5 = #[.int .i64 y5.op, .int .i64 y5.a, .int .i64 y5.short, .int .u8 y5.fill] := by cases cs5; simp only at hl5; subst hl5; rfl
  clear hA0 hval0 hsz0 hsz
  refine (Am.loads_calls a0 a1 a2 cap2 l2 a3 a4 y5 W w0 w1 hr2 hc2 hm2 w2 w3 w4 w5).mono fun e W' ⟨he, bel⟩ => ?_
  subst he
  exact ⟨_, rfl, _, _, _, [], _, [], hW', trodAll_mk1 (shut_bool Try.underlying4 _), (trodAll_cons_mk (shut_int Try.underlying3 w0) (trodAll_cons_mk (shut_int Try.underlying3 w1) (trodAll_cons_mk (Below.trod laidOut (by kernel_rfl) (of_decide_eq_true (by kernel_rfl)) k2 bel lt2) (trodAll_cons_mk (shut_int Try.underlying3 w3) (trodAll_cons_mk (shut_int Try.underlying5 w4) (trodAll_cons_mk (Below.trod laidOut (by kernel_rfl) (of_decide_eq_true (by kernel_rfl)) k5 bel lt5) trodAll_mk0)))))), rfl, bel.frame _, fun h => by cases h⟩
theorem over : Rows.nandLoadsRow.holds Try.pinned (OpenSpec.ofChange Rows.nandLoadsSpec) :=
  OpenClaim.holds_of_wide 7 Try.f7 rfl rfl rfl rfl rfl rfl rfl ⟨rfl, rfl, rfl, rfl, rfl⟩ rfl rfl rfl rfl rfl (by kernel_rfl) Try.func7 (by kernel_rfl)
    (of_decide_eq_true (by kernel_rfl)) (by unfold Func.isWrapper; first | (rw [if_pos (by decide +kernel)]; kernel_rfl) | (rw [if_neg (by decide +kernel)]; exact ⟨rfl, rfl⟩))
    (fun os started H enc _ => lifted os started H enc)
theorem proved : Rows.NandLoadsSaid := over
#print axioms proved
end Go.Proofs.Ytmkolibmadbenaa.nandLoads
namespace Go.Proofs.Ytmkolibmadbenaa
/-- The row, under a short name, for the claim. -/
theorem nandLoads_holds : Rows.NandLoadsSaid := nandLoads.proved
end Go.Proofs.Ytmkolibmadbenaa
