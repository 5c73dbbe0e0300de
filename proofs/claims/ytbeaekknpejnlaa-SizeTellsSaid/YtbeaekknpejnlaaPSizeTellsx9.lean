-- By a program of this session (NOTES.md). Lean checks it.
import Derived.Test.YtbeaekknpejnlaaPSizeTellsx0
import Derived.Test.YtbeaekknpejnlaaPSizeTellsx1
import Derived.Test.YtbeaekknpejnlaaPSizeTellsx3
import Derived.Test.YtbeaekknpejnlaaPSizeTellsx4
import Derived.Test.YtbeaekknpejnlaaPSizeTellsx5
import Derived.Test.YtbeaekknpejnlaaPSizeTellsx6
import Derived.Test.YtbeaekknpejnlaaPSizeTellsx7
import Derived.Test.YtbeaekknpejnlaaPSizeTellsx8
namespace Go.Proofs.Ytbeaekknpejnlaa.PSizeTells
open Go.RowKit Go.Proofs.YtbeaekknpejnlaaW.PrintWords Go.Proofs.YtbeaekknpejnlaaW.PrintLast Go.Proofs.YtbeaekknpejnlaaW.PrintMore
attribute [local go_sem] max2_int min2_int max_two min_two max_three min_three max_four min_four   -- for this text's walks alone
set_option linter.unusedVariables false
set_option linter.unusedSimpArgs false

attribute [local go_sem high] eqA24
attribute [local go_sem] sc_drewN
/-! ### ferrulelaw16_SizeTells: function 4 -/
mutual
def ferrulelaw16_SizeTells.j0 : Nat → Int → Int → Int → Int → Int → Int → Int → Int → Bool → Option (Bool)
  | 0, _, _, _, _, _, _, _, _, _ => none
  | k + 1, x1, x2, x288000, x288001, x288002, x288003, x288004, x288005, x288006 => (ferruleref16_Good.f k x288000 x288001 x288002 x288003 x288004 x288005 x288006).bind fun t316 => ((size_Rewrites.f k x288000 x288001 x288002 x288003 x288004 x288005 x288006 x1).bind fun bt317 => ((size_CallPrograms.f k x288000 x288001 x288002 x288003 x288004 x288005 x288006 x1 x2).bind fun bt319 => ((size_Good.f k x288000 x288001 x288002 x288003 x288004 x288005 x288006).bind fun t321 => (if (t321 != t316) = true then (some false) else (if t316 = true then (if x1 < 1 then (ferrulelaw16_SizeTells.j1 k x1 x2 bt317.1 bt317.2 bt319.1 bt319.2 true x288000 x288001 x288002 x288003 x288004 x288005 x288006) else (ferrulelaw16_SizeTells.j1 k x1 x2 bt317.1 bt317.2 bt319.1 bt319.2 (decide (x1 > x288002)) x288000 x288001 x288002 x288003 x288004 x288005 x288006)) else (ferrulelaw16_SizeTells.j1 k x1 x2 bt317.1 bt317.2 bt319.1 bt319.2 true x288000 x288001 x288002 x288003 x288004 x288005 x288006))))))
def ferrulelaw16_SizeTells.j1 : Nat → Int → Int → Int → Int → Int → Int → Bool → Int → Int → Int → Int → Int → Int → Bool → Option (Bool)
  | 0, _, _, _, _, _, _, _, _, _, _, _, _, _, _ => none
  | k + 1, x1, x2, x10, x11, x12, x13, x74, x288000, x288001, x288002, x288003, x288004, x288005, x288006 => if x74 = true then (if x11 = 1 then (if x13 = 1 then (if x10 = 0 then (some (x12 == 0)) else (some false)) else (some false)) else (some false)) else (if x11 = 0 then ((ferruleref16_Rewrites.f x288000 x288001 x288002 x288003 x288004 x288005 x288006 x1).bind fun t322 => (ferrulelaw16_SizeTells.j2 k x1 x2 x12 x13 (x10 != t322) x288000 x288001 x288002 x288003 x288004 x288005 x288006)) else (ferrulelaw16_SizeTells.j2 k x1 x2 x12 x13 true x288000 x288001 x288002 x288003 x288004 x288005 x288006))
def ferrulelaw16_SizeTells.j2 : Nat → Int → Int → Int → Int → Bool → Int → Int → Int → Int → Int → Int → Bool → Option (Bool)
  | 0, _, _, _, _, _, _, _, _, _, _, _, _ => none
  | k + 1, x1, x2, x12, x13, x97, x288000, x288001, x288002, x288003, x288004, x288005, x288006 => if x97 = true then (some false) else (if x2 < 0 then (if x13 = 1 then (some (x12 == 0)) else (some false)) else (if x2 > 1000 then (if x13 = 1 then (some (x12 == 0)) else (some false)) else (if x13 = 0 then ((ferruleref16_CallPrograms.f k x288000 x288001 x288002 x288003 x288004 x288005 x288006 x1 x2).bind fun t323 => (some (x12 == t323))) else (some false))))
end
def ferrulelaw16_SizeTells.f (k : Nat) (a0_0 : Int) (a0_1 : Int) (a0_2 : Int) (a0_3 : Int) (a0_4 : Int) (a0_5 : Int) (a0_6 : Bool) (a1 : Int) (a2 : Int) : Option (Bool) := (ferrulelaw16_awake.f k).bind fun t288 => (if t288 = true then ((size_Of.f k a0_0 a0_1 a0_2 a0_3 a0_4 a0_5 a0_6).bind fun bt289 => ((ferruleref16_Span.f a0_0 a0_1 a0_2 a0_3 a0_4 a0_5 a0_6).bind fun t302 => (if t302 = true then (if bt289.2.2.2.2.2.2.2.2.2.2.2 = 0 then ((ferruleref16_Of.f k a0_0 a0_1 a0_2 a0_3 a0_4 a0_5 a0_6).bind fun bt303 => ((ferrulelaw16_is.f bt289.1 bt289.2.1 bt289.2.2.1 bt289.2.2.2.1 bt289.2.2.2.2.1 bt289.2.2.2.2.2.1 bt289.2.2.2.2.2.2.1 bt289.2.2.2.2.2.2.2.1 bt289.2.2.2.2.2.2.2.2.1 bt289.2.2.2.2.2.2.2.2.2.1 bt289.2.2.2.2.2.2.2.2.2.2.1 bt303.1 bt303.2.1 bt303.2.2.1 bt303.2.2.2.1 bt303.2.2.2.2.1 bt303.2.2.2.2.2.1 bt303.2.2.2.2.2.2.1 bt303.2.2.2.2.2.2.2.1 bt303.2.2.2.2.2.2.2.2.1 bt303.2.2.2.2.2.2.2.2.2.1 bt303.2.2.2.2.2.2.2.2.2.2).bind fun t314 => (if t314 = true then (ferrulelaw16_SizeTells.j0 k a1 a2 a0_0 a0_1 a0_2 a0_3 a0_4 a0_5 a0_6) else (some false)))) else (some false)) else (if bt289.2.2.2.2.2.2.2.2.2.2.2 = 1 then (if (!(bt289.1 == 0) || (!(bt289.2.1 == 0) || (!(bt289.2.2.1 == 0) || (!(bt289.2.2.2.1 == 0) || (!(bt289.2.2.2.2.1 == 0) || (!(bt289.2.2.2.2.2.1 == 0) || (!(bt289.2.2.2.2.2.2.1 == 0) || (!(bt289.2.2.2.2.2.2.2.1 == 0) || (!(bt289.2.2.2.2.2.2.2.2.1 == 0) || (!(bt289.2.2.2.2.2.2.2.2.2.1 == 0) || (!(bt289.2.2.2.2.2.2.2.2.2.2.1 == 0)))))))))))) = true then (some false) else ((size_Good.f k a0_0 a0_1 a0_2 a0_3 a0_4 a0_5 a0_6).bind fun t315 => (if t315 = true then (some false) else (ferrulelaw16_SizeTells.j0 k a1 a2 a0_0 a0_1 a0_2 a0_3 a0_4 a0_5 a0_6)))) else (some false))))) else (some false))
theorem ferrulelaw16_SizeTells.mono_l : ∀ k, (∀ y0 y1 y2 y3 y4 y5 y6 y7 y8, LeO (ferrulelaw16_SizeTells.j0 k y0 y1 y2 y3 y4 y5 y6 y7 y8) (ferrulelaw16_SizeTells.j0 (k + 1) y0 y1 y2 y3 y4 y5 y6 y7 y8)) ∧ (∀ y0 y1 y2 y3 y4 y5 y6 y7 y8 y9 y10 y11 y12 y13, LeO (ferrulelaw16_SizeTells.j1 k y0 y1 y2 y3 y4 y5 y6 y7 y8 y9 y10 y11 y12 y13) (ferrulelaw16_SizeTells.j1 (k + 1) y0 y1 y2 y3 y4 y5 y6 y7 y8 y9 y10 y11 y12 y13)) ∧ (∀ y0 y1 y2 y3 y4 y5 y6 y7 y8 y9 y10 y11, LeO (ferrulelaw16_SizeTells.j2 k y0 y1 y2 y3 y4 y5 y6 y7 y8 y9 y10 y11) (ferrulelaw16_SizeTells.j2 (k + 1) y0 y1 y2 y3 y4 y5 y6 y7 y8 y9 y10 y11))
  | 0 => ⟨fun _ _ _ _ _ _ _ _ _ r h => by simp [ferrulelaw16_SizeTells.j0] at h, fun _ _ _ _ _ _ _ _ _ _ _ _ _ _ r h => by simp [ferrulelaw16_SizeTells.j1] at h, fun _ _ _ _ _ _ _ _ _ _ _ _ r h => by simp [ferrulelaw16_SizeTells.j2] at h⟩
  | k + 1 => by
    obtain ⟨ih0, ih1, ih2⟩ := ferrulelaw16_SizeTells.mono_l k
    refine ⟨?_, ?_, ?_⟩
    · intro y0 y1 y2 y3 y4 y5 y6 y7 y8
      unfold ferrulelaw16_SizeTells.j0
      repeat' first
      | (with_reducible exact ih0 _ _ _ _ _ _ _ _ _)
      | (with_reducible exact ih1 _ _ _ _ _ _ _ _ _ _ _ _ _ _)
      | (with_reducible exact ih2 _ _ _ _ _ _ _ _ _ _ _ _)
      | (with_reducible exact ferrulelaw16_awake.mono _)
      | (with_reducible exact ferruleref16_CallPrograms.mono _ _ _ _ _ _ _ _ _ _)
      | (with_reducible exact ferruleref16_Good.mono _ _ _ _ _ _ _ _)
      | (with_reducible exact ferruleref16_Of.mono _ _ _ _ _ _ _ _)
      | (with_reducible exact size_CallPrograms.mono _ _ _ _ _ _ _ _ _ _)
      | (with_reducible exact size_Good.mono _ _ _ _ _ _ _ _)
      | (with_reducible exact size_Of.mono _ _ _ _ _ _ _ _)
      | (with_reducible exact size_Rewrites.mono _ _ _ _ _ _ _ _ _)
      | (with_reducible exact LeO.refl _)
      | (with_reducible exact LeO.none _)
      | (with_reducible refine LeO.ite ?_ ?_)
      | (with_reducible refine LeO.bind ?_ (fun _ => ?_))
      | exact ih0 _ _ _ _ _ _ _ _ _
      | exact ih1 _ _ _ _ _ _ _ _ _ _ _ _ _ _
      | exact ih2 _ _ _ _ _ _ _ _ _ _ _ _
      | exact ferrulelaw16_awake.mono _
      | exact ferruleref16_CallPrograms.mono _ _ _ _ _ _ _ _ _ _
      | exact ferruleref16_Good.mono _ _ _ _ _ _ _ _
      | exact ferruleref16_Of.mono _ _ _ _ _ _ _ _
      | exact size_CallPrograms.mono _ _ _ _ _ _ _ _ _ _
      | exact size_Good.mono _ _ _ _ _ _ _ _
      | exact size_Of.mono _ _ _ _ _ _ _ _
      | exact size_Rewrites.mono _ _ _ _ _ _ _ _ _
      | exact LeO.none _
      | refine LeO.ite ?_ ?_
      | refine LeO.bind ?_ (fun _ => ?_)
    · intro y0 y1 y2 y3 y4 y5 y6 y7 y8 y9 y10 y11 y12 y13
      unfold ferrulelaw16_SizeTells.j1
      repeat' first
      | (with_reducible exact ih0 _ _ _ _ _ _ _ _ _)
      | (with_reducible exact ih1 _ _ _ _ _ _ _ _ _ _ _ _ _ _)
      | (with_reducible exact ih2 _ _ _ _ _ _ _ _ _ _ _ _)
      | (with_reducible exact ferrulelaw16_awake.mono _)
      | (with_reducible exact ferruleref16_CallPrograms.mono _ _ _ _ _ _ _ _ _ _)
      | (with_reducible exact ferruleref16_Good.mono _ _ _ _ _ _ _ _)
      | (with_reducible exact ferruleref16_Of.mono _ _ _ _ _ _ _ _)
      | (with_reducible exact size_CallPrograms.mono _ _ _ _ _ _ _ _ _ _)
      | (with_reducible exact size_Good.mono _ _ _ _ _ _ _ _)
      | (with_reducible exact size_Of.mono _ _ _ _ _ _ _ _)
      | (with_reducible exact size_Rewrites.mono _ _ _ _ _ _ _ _ _)
      | (with_reducible exact LeO.refl _)
      | (with_reducible exact LeO.none _)
      | (with_reducible refine LeO.ite ?_ ?_)
      | (with_reducible refine LeO.bind ?_ (fun _ => ?_))
      | exact ih0 _ _ _ _ _ _ _ _ _
      | exact ih1 _ _ _ _ _ _ _ _ _ _ _ _ _ _
      | exact ih2 _ _ _ _ _ _ _ _ _ _ _ _
      | exact ferrulelaw16_awake.mono _
      | exact ferruleref16_CallPrograms.mono _ _ _ _ _ _ _ _ _ _
      | exact ferruleref16_Good.mono _ _ _ _ _ _ _ _
      | exact ferruleref16_Of.mono _ _ _ _ _ _ _ _
      | exact size_CallPrograms.mono _ _ _ _ _ _ _ _ _ _
      | exact size_Good.mono _ _ _ _ _ _ _ _
      | exact size_Of.mono _ _ _ _ _ _ _ _
      | exact size_Rewrites.mono _ _ _ _ _ _ _ _ _
      | exact LeO.none _
      | refine LeO.ite ?_ ?_
      | refine LeO.bind ?_ (fun _ => ?_)
    · intro y0 y1 y2 y3 y4 y5 y6 y7 y8 y9 y10 y11
      unfold ferrulelaw16_SizeTells.j2
      repeat' first
      | (with_reducible exact ih0 _ _ _ _ _ _ _ _ _)
      | (with_reducible exact ih1 _ _ _ _ _ _ _ _ _ _ _ _ _ _)
      | (with_reducible exact ih2 _ _ _ _ _ _ _ _ _ _ _ _)
      | (with_reducible exact ferrulelaw16_awake.mono _)
      | (with_reducible exact ferruleref16_CallPrograms.mono _ _ _ _ _ _ _ _ _ _)
      | (with_reducible exact ferruleref16_Good.mono _ _ _ _ _ _ _ _)
      | (with_reducible exact ferruleref16_Of.mono _ _ _ _ _ _ _ _)
      | (with_reducible exact size_CallPrograms.mono _ _ _ _ _ _ _ _ _ _)
      | (with_reducible exact size_Good.mono _ _ _ _ _ _ _ _)
      | (with_reducible exact size_Of.mono _ _ _ _ _ _ _ _)
      | (with_reducible exact size_Rewrites.mono _ _ _ _ _ _ _ _ _)
      | (with_reducible exact LeO.refl _)
      | (with_reducible exact LeO.none _)
      | (with_reducible refine LeO.ite ?_ ?_)
      | (with_reducible refine LeO.bind ?_ (fun _ => ?_))
      | exact ih0 _ _ _ _ _ _ _ _ _
      | exact ih1 _ _ _ _ _ _ _ _ _ _ _ _ _ _
      | exact ih2 _ _ _ _ _ _ _ _ _ _ _ _
      | exact ferrulelaw16_awake.mono _
      | exact ferruleref16_CallPrograms.mono _ _ _ _ _ _ _ _ _ _
      | exact ferruleref16_Good.mono _ _ _ _ _ _ _ _
      | exact ferruleref16_Of.mono _ _ _ _ _ _ _ _
      | exact size_CallPrograms.mono _ _ _ _ _ _ _ _ _ _
      | exact size_Good.mono _ _ _ _ _ _ _ _
      | exact size_Of.mono _ _ _ _ _ _ _ _
      | exact size_Rewrites.mono _ _ _ _ _ _ _ _ _
      | exact LeO.none _
      | refine LeO.ite ?_ ?_
      | refine LeO.bind ?_ (fun _ => ?_)
theorem ferrulelaw16_SizeTells.mono : ∀ a0 a1 a2 a3 a4 a5 a6 a7 a8 k, LeO (ferrulelaw16_SizeTells.f k a0 a1 a2 a3 a4 a5 a6 a7 a8) (ferrulelaw16_SizeTells.f (k + 1) a0 a1 a2 a3 a4 a5 a6 a7 a8) := by
  intro a0 a1 a2 a3 a4 a5 a6 a7 a8 k
  obtain ⟨ih0, ih1, ih2⟩ := ferrulelaw16_SizeTells.mono_l k
  unfold ferrulelaw16_SizeTells.f
  repeat' first
      | (with_reducible exact ih0 _ _ _ _ _ _ _ _ _)
      | (with_reducible exact ih1 _ _ _ _ _ _ _ _ _ _ _ _ _ _)
      | (with_reducible exact ih2 _ _ _ _ _ _ _ _ _ _ _ _)
      | (with_reducible exact ferrulelaw16_awake.mono _)
      | (with_reducible exact ferruleref16_CallPrograms.mono _ _ _ _ _ _ _ _ _ _)
      | (with_reducible exact ferruleref16_Good.mono _ _ _ _ _ _ _ _)
      | (with_reducible exact ferruleref16_Of.mono _ _ _ _ _ _ _ _)
      | (with_reducible exact size_CallPrograms.mono _ _ _ _ _ _ _ _ _ _)
      | (with_reducible exact size_Good.mono _ _ _ _ _ _ _ _)
      | (with_reducible exact size_Of.mono _ _ _ _ _ _ _ _)
      | (with_reducible exact size_Rewrites.mono _ _ _ _ _ _ _ _ _)
      | (with_reducible exact LeO.refl _)
      | (with_reducible exact LeO.none _)
      | (with_reducible refine LeO.ite ?_ ?_)
      | (with_reducible refine LeO.bind ?_ (fun _ => ?_))
      | exact ih0 _ _ _ _ _ _ _ _ _
      | exact ih1 _ _ _ _ _ _ _ _ _ _ _ _ _ _
      | exact ih2 _ _ _ _ _ _ _ _ _ _ _ _
      | exact ferrulelaw16_awake.mono _
      | exact ferruleref16_CallPrograms.mono _ _ _ _ _ _ _ _ _ _
      | exact ferruleref16_Good.mono _ _ _ _ _ _ _ _
      | exact ferruleref16_Of.mono _ _ _ _ _ _ _ _
      | exact size_CallPrograms.mono _ _ _ _ _ _ _ _ _ _
      | exact size_Good.mono _ _ _ _ _ _ _ _
      | exact size_Of.mono _ _ _ _ _ _ _ _
      | exact size_Rewrites.mono _ _ _ _ _ _ _ _ _
      | exact LeO.none _
      | refine LeO.ite ?_ ?_
      | refine LeO.bind ?_ (fun _ => ?_)
def ferrulelaw16_SizeTells.T7 : Bool × List (List Nat × List Nat) := (true, [([], []), ([0], [0]), ([1], [1]), ([2], [2]), ([2], [2]), ([4, 2, 2], [2, 4]), ([3, 5, 5, 2], [2, 3, 5]), ([6, 2], [2, 6]), ([2, 7], [2, 7])])
def ferrulelaw16_SizeTells.B7 : List Nat := [0, 1, 3, 7, 7, 23, 63, 127, 255]
theorem ferrulelaw16_SizeTells.tab7 : rtab .any (opsOf Try.f4 7) = ferrulelaw16_SizeTells.T7 := by kernel_rfl
theorem ferrulelaw16_SizeTells.bits7 : waitsOk ferrulelaw16_SizeTells.T7.2 ferrulelaw16_SizeTells.B7 = true := by kernel_rfl
set_option maxHeartbeats 8000000 in
set_option maxRecDepth 100000 in
theorem ferrulelaw16_SizeTells.calls (k : Nat) (a0_0 : Int) (a0_1 : Int) (a0_2 : Int) (a0_3 : Int) (a0_4 : Int) (a0_5 : Int) (a0_6 : Bool) (a1 : Int) (a2 : Int) (r : Bool) (w : World) (Hr : r = true) (h : ferrulelaw16_SizeTells.f k a0_0 a0_1 a0_2 a0_3 a0_4 a0_5 a0_6 a1 a2 = some r) :
    Calls Try.prog 4 #[.agg #[.int .i64 a0_0, .int .i64 a0_1, .int .i64 a0_2, .int .i64 a0_3, .int .i64 a0_4, .int .i64 a0_5, .bool a0_6], .int .i64 a1, .int .i64 a2] w fun e w' => e = .returned (.bool r) ∧ Below w.heap.size w w' := by
 have hu29 := Try.underlying29
 have hu24 := Try.underlying24
 have HB := Aside0.mk (Below.refl w.heap.size w)
 have H : ((ferrulelaw16_awake.f k).bind fun t288 => (if t288 = true then ((size_Of.f k a0_0 a0_1 a0_2 a0_3 a0_4 a0_5 a0_6).bind fun bt289 => ((ferruleref16_Span.f a0_0 a0_1 a0_2 a0_3 a0_4 a0_5 a0_6).bind fun t302 => (if t302 = true then (if bt289.2.2.2.2.2.2.2.2.2.2.2 = 0 then ((ferruleref16_Of.f k a0_0 a0_1 a0_2 a0_3 a0_4 a0_5 a0_6).bind fun bt303 => ((ferrulelaw16_is.f bt289.1 bt289.2.1 bt289.2.2.1 bt289.2.2.2.1 bt289.2.2.2.2.1 bt289.2.2.2.2.2.1 bt289.2.2.2.2.2.2.1 bt289.2.2.2.2.2.2.2.1 bt289.2.2.2.2.2.2.2.2.1 bt289.2.2.2.2.2.2.2.2.2.1 bt289.2.2.2.2.2.2.2.2.2.2.1 bt303.1 bt303.2.1 bt303.2.2.1 bt303.2.2.2.1 bt303.2.2.2.2.1 bt303.2.2.2.2.2.1 bt303.2.2.2.2.2.2.1 bt303.2.2.2.2.2.2.2.1 bt303.2.2.2.2.2.2.2.2.1 bt303.2.2.2.2.2.2.2.2.2.1 bt303.2.2.2.2.2.2.2.2.2.2).bind fun t314 => (if t314 = true then (ferrulelaw16_SizeTells.j0 k a1 a2 a0_0 a0_1 a0_2 a0_3 a0_4 a0_5 a0_6) else (some false)))) else (some false)) else (if bt289.2.2.2.2.2.2.2.2.2.2.2 = 1 then (if (!(bt289.1 == 0) || (!(bt289.2.1 == 0) || (!(bt289.2.2.1 == 0) || (!(bt289.2.2.2.1 == 0) || (!(bt289.2.2.2.2.1 == 0) || (!(bt289.2.2.2.2.2.1 == 0) || (!(bt289.2.2.2.2.2.2.1 == 0) || (!(bt289.2.2.2.2.2.2.2.1 == 0) || (!(bt289.2.2.2.2.2.2.2.2.1 == 0) || (!(bt289.2.2.2.2.2.2.2.2.2.1 == 0) || (!(bt289.2.2.2.2.2.2.2.2.2.2.1 == 0)))))))))))) = true then (some false) else ((size_Good.f k a0_0 a0_1 a0_2 a0_3 a0_4 a0_5 a0_6).bind fun t315 => (if t315 = true then (some false) else (ferrulelaw16_SizeTells.j0 k a1 a2 a0_0 a0_1 a0_2 a0_3 a0_4 a0_5 a0_6)))) else (some false))))) else (some false))) = some r := h
 clear h
 replace H := Option.bind_eq_some_iff.mp H
 obtain ⟨t288, A40, H⟩ := H
 replace H : (if t288 = true then ((size_Of.f k a0_0 a0_1 a0_2 a0_3 a0_4 a0_5 a0_6).bind fun bt289 => ((ferruleref16_Span.f a0_0 a0_1 a0_2 a0_3 a0_4 a0_5 a0_6).bind fun t302 => (if t302 = true then (if bt289.2.2.2.2.2.2.2.2.2.2.2 = 0 then ((ferruleref16_Of.f k a0_0 a0_1 a0_2 a0_3 a0_4 a0_5 a0_6).bind fun bt303 => ((ferrulelaw16_is.f bt289.1 bt289.2.1 bt289.2.2.1 bt289.2.2.2.1 bt289.2.2.2.2.1 bt289.2.2.2.2.2.1 bt289.2.2.2.2.2.2.1 bt289.2.2.2.2.2.2.2.1 bt289.2.2.2.2.2.2.2.2.1 bt289.2.2.2.2.2.2.2.2.2.1 bt289.2.2.2.2.2.2.2.2.2.2.1 bt303.1 bt303.2.1 bt303.2.2.1 bt303.2.2.2.1 bt303.2.2.2.2.1 bt303.2.2.2.2.2.1 bt303.2.2.2.2.2.2.1 bt303.2.2.2.2.2.2.2.1 bt303.2.2.2.2.2.2.2.2.1 bt303.2.2.2.2.2.2.2.2.2.1 bt303.2.2.2.2.2.2.2.2.2.2).bind fun t314 => (if t314 = true then (ferrulelaw16_SizeTells.j0 k a1 a2 a0_0 a0_1 a0_2 a0_3 a0_4 a0_5 a0_6) else (some false)))) else (some false)) else (if bt289.2.2.2.2.2.2.2.2.2.2.2 = 1 then (if (!(bt289.1 == 0) || (!(bt289.2.1 == 0) || (!(bt289.2.2.1 == 0) || (!(bt289.2.2.2.1 == 0) || (!(bt289.2.2.2.2.1 == 0) || (!(bt289.2.2.2.2.2.1 == 0) || (!(bt289.2.2.2.2.2.2.1 == 0) || (!(bt289.2.2.2.2.2.2.2.1 == 0) || (!(bt289.2.2.2.2.2.2.2.2.1 == 0) || (!(bt289.2.2.2.2.2.2.2.2.2.1 == 0) || (!(bt289.2.2.2.2.2.2.2.2.2.2.1 == 0)))))))))))) = true then (some false) else ((size_Good.f k a0_0 a0_1 a0_2 a0_3 a0_4 a0_5 a0_6).bind fun t315 => (if t315 = true then (some false) else (ferrulelaw16_SizeTells.j0 k a1 a2 a0_0 a0_1 a0_2 a0_3 a0_4 a0_5 a0_6)))) else (some false))))) else (some false)) = some r := H
 have A4 := Aside0.mk A40
 clear A40
 by_cases c5 : t288 = true
 {
 subst c5
 have H1 : ((size_Of.f k a0_0 a0_1 a0_2 a0_3 a0_4 a0_5 a0_6).bind fun bt289 => ((ferruleref16_Span.f a0_0 a0_1 a0_2 a0_3 a0_4 a0_5 a0_6).bind fun t302 => (if t302 = true then (if bt289.2.2.2.2.2.2.2.2.2.2.2 = 0 then ((ferruleref16_Of.f k a0_0 a0_1 a0_2 a0_3 a0_4 a0_5 a0_6).bind fun bt303 => ((ferrulelaw16_is.f bt289.1 bt289.2.1 bt289.2.2.1 bt289.2.2.2.1 bt289.2.2.2.2.1 bt289.2.2.2.2.2.1 bt289.2.2.2.2.2.2.1 bt289.2.2.2.2.2.2.2.1 bt289.2.2.2.2.2.2.2.2.1 bt289.2.2.2.2.2.2.2.2.2.1 bt289.2.2.2.2.2.2.2.2.2.2.1 bt303.1 bt303.2.1 bt303.2.2.1 bt303.2.2.2.1 bt303.2.2.2.2.1 bt303.2.2.2.2.2.1 bt303.2.2.2.2.2.2.1 bt303.2.2.2.2.2.2.2.1 bt303.2.2.2.2.2.2.2.2.1 bt303.2.2.2.2.2.2.2.2.2.1 bt303.2.2.2.2.2.2.2.2.2.2).bind fun t314 => (if t314 = true then (ferrulelaw16_SizeTells.j0 k a1 a2 a0_0 a0_1 a0_2 a0_3 a0_4 a0_5 a0_6) else (some false)))) else (some false)) else (if bt289.2.2.2.2.2.2.2.2.2.2.2 = 1 then (if (!(bt289.1 == 0) || (!(bt289.2.1 == 0) || (!(bt289.2.2.1 == 0) || (!(bt289.2.2.2.1 == 0) || (!(bt289.2.2.2.2.1 == 0) || (!(bt289.2.2.2.2.2.1 == 0) || (!(bt289.2.2.2.2.2.2.1 == 0) || (!(bt289.2.2.2.2.2.2.2.1 == 0) || (!(bt289.2.2.2.2.2.2.2.2.1 == 0) || (!(bt289.2.2.2.2.2.2.2.2.2.1 == 0) || (!(bt289.2.2.2.2.2.2.2.2.2.2.1 == 0)))))))))))) = true then (some false) else ((size_Good.f k a0_0 a0_1 a0_2 a0_3 a0_4 a0_5 a0_6).bind fun t315 => (if t315 = true then (some false) else (ferrulelaw16_SizeTells.j0 k a1 a2 a0_0 a0_1 a0_2 a0_3 a0_4 a0_5 a0_6)))) else (some false))))) = some r := by rw [if_pos rfl] at H; exact H
 clear H
 have H := H1
 clear H1
 replace H := Option.bind_eq_some_iff.mp H
 obtain ⟨⟨t289, t290, t291, t292, t293, t294, t295, t296, t297, t298, t299, t300⟩, A60, H⟩ := H
 replace H : ((ferruleref16_Span.f a0_0 a0_1 a0_2 a0_3 a0_4 a0_5 a0_6).bind fun t302 => (if t302 = true then (if t300 = 0 then ((ferruleref16_Of.f k a0_0 a0_1 a0_2 a0_3 a0_4 a0_5 a0_6).bind fun bt303 => ((ferrulelaw16_is.f t289 t290 t291 t292 t293 t294 t295 t296 t297 t298 t299 bt303.1 bt303.2.1 bt303.2.2.1 bt303.2.2.2.1 bt303.2.2.2.2.1 bt303.2.2.2.2.2.1 bt303.2.2.2.2.2.2.1 bt303.2.2.2.2.2.2.2.1 bt303.2.2.2.2.2.2.2.2.1 bt303.2.2.2.2.2.2.2.2.2.1 bt303.2.2.2.2.2.2.2.2.2.2).bind fun t314 => (if t314 = true then (ferrulelaw16_SizeTells.j0 k a1 a2 a0_0 a0_1 a0_2 a0_3 a0_4 a0_5 a0_6) else (some false)))) else (some false)) else (if t300 = 1 then (if (!(t289 == 0) || (!(t290 == 0) || (!(t291 == 0) || (!(t292 == 0) || (!(t293 == 0) || (!(t294 == 0) || (!(t295 == 0) || (!(t296 == 0) || (!(t297 == 0) || (!(t298 == 0) || (!(t299 == 0)))))))))))) = true then (some false) else ((size_Good.f k a0_0 a0_1 a0_2 a0_3 a0_4 a0_5 a0_6).bind fun t315 => (if t315 = true then (some false) else (ferrulelaw16_SizeTells.j0 k a1 a2 a0_0 a0_1 a0_2 a0_3 a0_4 a0_5 a0_6)))) else (some false)))) = some r := H
 have A6 := Aside0.mk A60
 clear A60
 replace H := Option.bind_eq_some_iff.mp H
 obtain ⟨t302, A70, H⟩ := H
 replace H : (if t302 = true then (if t300 = 0 then ((ferruleref16_Of.f k a0_0 a0_1 a0_2 a0_3 a0_4 a0_5 a0_6).bind fun bt303 => ((ferrulelaw16_is.f t289 t290 t291 t292 t293 t294 t295 t296 t297 t298 t299 bt303.1 bt303.2.1 bt303.2.2.1 bt303.2.2.2.1 bt303.2.2.2.2.1 bt303.2.2.2.2.2.1 bt303.2.2.2.2.2.2.1 bt303.2.2.2.2.2.2.2.1 bt303.2.2.2.2.2.2.2.2.1 bt303.2.2.2.2.2.2.2.2.2.1 bt303.2.2.2.2.2.2.2.2.2.2).bind fun t314 => (if t314 = true then (ferrulelaw16_SizeTells.j0 k a1 a2 a0_0 a0_1 a0_2 a0_3 a0_4 a0_5 a0_6) else (some false)))) else (some false)) else (if t300 = 1 then (if (!(t289 == 0) || (!(t290 == 0) || (!(t291 == 0) || (!(t292 == 0) || (!(t293 == 0) || (!(t294 == 0) || (!(t295 == 0) || (!(t296 == 0) || (!(t297 == 0) || (!(t298 == 0) || (!(t299 == 0)))))))))))) = true then (some false) else ((size_Good.f k a0_0 a0_1 a0_2 a0_3 a0_4 a0_5 a0_6).bind fun t315 => (if t315 = true then (some false) else (ferrulelaw16_SizeTells.j0 k a1 a2 a0_0 a0_1 a0_2 a0_3 a0_4 a0_5 a0_6)))) else (some false))) = some r := H
 have A7 := Aside0.mk A70
 clear A70
 have HC8 := Aside0.mk H
 clear H
 go_enter Try.func4, Try.ntmps4
 go_upto_if 23 with (first | ((with_reducible refine gate_dst (N := 3) rfl ?_); refine box_event ?hg (N := 3) ?hd (cs := #[.int .i64 a0_0, .int .i64 a0_1, .int .i64 a0_2, .int .i64 a0_3, .int .i64 a0_4, .int .i64 a0_5, .bool a0_6]) (t := 29) ?hr ?_; (case hd => rfl); (case hg => rfl); (case hr => first | (go_simp; done) | (go_simp; rfl)); intro gb287 hg w9 hbox hb; have n0_ := Aside0.mk (below_step (by repeat (first | (with_reducible first | exact HB.out | apply below_alloc | apply pw_below_drewN | apply below_drew1) | exact HB.out)) hb); have n1_ := Aside0.mk (hbox); have n2_ := Aside0.mk ((by rw [hg]; exact (below_size (by repeat (first | (with_reducible first | exact HB.out | apply below_alloc | apply pw_below_drewN | apply below_drew1) | exact HB.out))) : w.heap.size ≤ gb287)); have n3_ := Aside0.mk ((by rw [hg]; exact (below_size (by repeat (first | (with_reducible first | exact HB.out | apply below_alloc | apply pw_below_drewN | apply below_drew1) | exact HB.out))) : w.heap.size ≤ gb287)); clear HB; have HB := n0_; have BK287 := n1_; have GW287 := n2_; have GE287 := n3_; clear n0_ n1_ n2_ n3_; clear hb hbox hg) | ((with_reducible refine gate_callee (f := 8) rfl ?_); refine goesL_ (some 14) rfl rfl Try.func8 (by kernel_rfl) rfl #[] rfl (by (try simp only [List.map_toArray, List.map_cons, List.map_nil]); first | done | rfl | (simp only [List.length_drop, List.length_take]; rfl)) ?_; (with_reducible refine (ferrulelaw16_awake.calls k  true _ A4.out).mono ?_); rintro e w10 ⟨rfl, hb⟩; refine ⟨_, rfl, ?_⟩; have n0_ := Aside0.mk (blk_below (g := gb287) (o := .cells #[.int .i64 a0_0, .int .i64 a0_1, .int .i64 a0_2, .int .i64 a0_3, .int .i64 a0_4, .int .i64 a0_5, .bool a0_6] 29 (0, 0)) (by (with_reducible repeat (first | refine blk_drewN ?_ _ | refine blk_drew ?_ | refine blk_alloc ?_ _)); exact BK287.out) hb); have n1_ := Aside0.mk (below_step (by repeat (first | (with_reducible first | exact HB.out | apply below_alloc | apply pw_below_drewN | apply below_drew1 | refine below_set ?_ GE287.out) | exact HB.out)) hb); clear BK287; clear HB; have BK287 := n0_; have HB := n1_; clear n0_ n1_; (try clear hb); (try clear hb2); (try clear hk); (try clear hi); have hcz11_0 : w10.cell? ⟨gb287, 0, none⟩ = some (.int .i64 a0_0) := (blk_cell BK287.out 0).trans rfl; have hcz11_1 : w10.cell? ⟨gb287, 1, none⟩ = some (.int .i64 a0_1) := (blk_cell BK287.out 1).trans rfl; have hcz11_2 : w10.cell? ⟨gb287, 2, none⟩ = some (.int .i64 a0_2) := (blk_cell BK287.out 2).trans rfl; have hcz11_3 : w10.cell? ⟨gb287, 3, none⟩ = some (.int .i64 a0_3) := (blk_cell BK287.out 3).trans rfl; have hcz11_4 : w10.cell? ⟨gb287, 4, none⟩ = some (.int .i64 a0_4) := (blk_cell BK287.out 4).trans rfl; have hcz11_5 : w10.cell? ⟨gb287, 5, none⟩ = some (.int .i64 a0_5) := (blk_cell BK287.out 5).trans rfl; have hcz11_6 : w10.cell? ⟨gb287, 6, none⟩ = some (.bool a0_6) := (blk_cell BK287.out 6).trans rfl; have hfz11_0 := blk_frozen BK287.out 0; have hfz11_1 := blk_frozen BK287.out 1; have hfz11_2 := blk_frozen BK287.out 2; have hfz11_3 := blk_frozen BK287.out 3; have hfz11_4 := blk_frozen BK287.out 4; have hfz11_5 := blk_frozen BK287.out 5; have hfz11_6 := blk_frozen BK287.out 6) | ((with_reducible refine gate_callee (f := 9) rfl ?_); refine goesL_ (some 18) rfl rfl Try.func9 (by kernel_rfl) rfl #[.agg #[.int .i64 a0_0, .int .i64 a0_1, .int .i64 a0_2, .int .i64 a0_3, .int .i64 a0_4, .int .i64 a0_5, .bool a0_6]] rfl (by (try simp only [List.map_toArray, List.map_cons, List.map_nil]); first | done | rfl | (simp only [List.length_drop, List.length_take]; rfl)) ?_; (with_reducible refine (size_Of.calls k a0_0 a0_1 a0_2 a0_3 a0_4 a0_5 a0_6 t289 t290 t291 t292 t293 t294 t295 t296 t297 t298 t299 t300 _ A6.out).mono ?_); rintro e w12 ⟨rfl, hb⟩; refine ⟨_, rfl, ?_⟩; have n0_ := Aside0.mk (blk_below (g := gb287) (o := .cells #[.int .i64 a0_0, .int .i64 a0_1, .int .i64 a0_2, .int .i64 a0_3, .int .i64 a0_4, .int .i64 a0_5, .bool a0_6] 29 (0, 0)) (by (with_reducible repeat (first | refine blk_drewN ?_ _ | refine blk_drew ?_ | refine blk_alloc ?_ _)); exact BK287.out) hb); have n1_ := Aside0.mk (below_step (by repeat (first | (with_reducible first | exact HB.out | apply below_alloc | apply pw_below_drewN | apply below_drew1 | refine below_set ?_ GE287.out) | exact HB.out)) hb); clear BK287; clear HB; have BK287 := n0_; have HB := n1_; clear n0_ n1_; (try clear hb); (try clear hb2); (try clear hk); (try clear hi)) | ((with_reducible refine gate_dst (N := 7) rfl ?_); refine box_event ?hg (N := 7) ?hd (cs := #[.int .i64 0, .int .i64 0, .int .i64 0, .int .i64 0, .int .i64 0, .int .i64 0, .int .i64 0, .int .i64 0, .int .i64 0, .int .i64 0, .int .i64 0]) (t := 24) ?hr ?_; (case hd => rfl); (case hg => rfl); (case hr => first | (go_simp; done) | (go_simp; rfl)); intro gb301 hg w13 hbox hb; have n0_ := Aside0.mk (blk_below (g := gb287) (o := .cells #[.int .i64 a0_0, .int .i64 a0_1, .int .i64 a0_2, .int .i64 a0_3, .int .i64 a0_4, .int .i64 a0_5, .bool a0_6] 29 (0, 0)) (by (with_reducible repeat (first | refine blk_drewN ?_ _ | refine blk_drew ?_ | refine blk_alloc ?_ _)); exact BK287.out) hb); have n1_ := Aside0.mk (below_step (by repeat (first | (with_reducible first | exact HB.out | apply below_alloc | apply pw_below_drewN | apply below_drew1 | refine below_set ?_ GE287.out) | exact HB.out)) hb); have n2_ := Aside0.mk (hbox); have n3_ := Aside0.mk ((by rw [hg]; exact (below_size (by repeat (first | (with_reducible first | exact HB.out | apply below_alloc | apply pw_below_drewN | apply below_drew1 | refine below_set ?_ GE287.out) | exact HB.out))) : w.heap.size ≤ gb301)); have n4_ := Aside0.mk ((by rw [hg]; exact (below_size (by repeat (first | (with_reducible first | exact HB.out | apply below_alloc | apply pw_below_drewN | apply below_drew1 | refine below_set ?_ GE287.out) | exact HB.out))) : w.heap.size ≤ gb301)); have n5_ := Aside0.mk ((by rw [hg]; exact Nat.ne_of_lt (blk_lt (g := gb287) (o := .cells #[.int .i64 a0_0, .int .i64 a0_1, .int .i64 a0_2, .int .i64 a0_3, .int .i64 a0_4, .int .i64 a0_5, .bool a0_6] 29 (0, 0)) (by (with_reducible repeat (first | refine blk_drewN ?_ _ | refine blk_drew ?_ | refine blk_alloc ?_ _)); exact BK287.out)) : gb287 ≠ gb301)); have n6_ := Aside0.mk ((by rw [hg]; exact Nat.ne_of_gt (blk_lt (g := gb287) (o := .cells #[.int .i64 a0_0, .int .i64 a0_1, .int .i64 a0_2, .int .i64 a0_3, .int .i64 a0_4, .int .i64 a0_5, .bool a0_6] 29 (0, 0)) (by (with_reducible repeat (first | refine blk_drewN ?_ _ | refine blk_drew ?_ | refine blk_alloc ?_ _)); exact BK287.out)) : gb301 ≠ gb287)); clear BK287; clear HB; have BK287 := n0_; have HB := n1_; have BK301 := n2_; have GW301 := n3_; have GE301 := n4_; have NB287_301 := n5_; have NB301_287 := n6_; clear n0_ n1_ n2_ n3_ n4_ n5_ n6_; clear hb hbox hg; have hnb14 := NB301_287.out; have hnc14 := NB287_301.out; have hcz15_0 : w13.cell? ⟨gb301, 0, none⟩ = some (.int .i64 0) := (blk_cell BK301.out 0).trans rfl; have hcz15_1 : w13.cell? ⟨gb301, 1, none⟩ = some (.int .i64 0) := (blk_cell BK301.out 1).trans rfl; have hcz15_2 : w13.cell? ⟨gb301, 2, none⟩ = some (.int .i64 0) := (blk_cell BK301.out 2).trans rfl; have hcz15_3 : w13.cell? ⟨gb301, 3, none⟩ = some (.int .i64 0) := (blk_cell BK301.out 3).trans rfl; have hcz15_4 : w13.cell? ⟨gb301, 4, none⟩ = some (.int .i64 0) := (blk_cell BK301.out 4).trans rfl; have hcz15_5 : w13.cell? ⟨gb301, 5, none⟩ = some (.int .i64 0) := (blk_cell BK301.out 5).trans rfl; have hcz15_6 : w13.cell? ⟨gb301, 6, none⟩ = some (.int .i64 0) := (blk_cell BK301.out 6).trans rfl; have hcz15_7 : w13.cell? ⟨gb301, 7, none⟩ = some (.int .i64 0) := (blk_cell BK301.out 7).trans rfl; have hcz15_8 : w13.cell? ⟨gb301, 8, none⟩ = some (.int .i64 0) := (blk_cell BK301.out 8).trans rfl; have hcz15_9 : w13.cell? ⟨gb301, 9, none⟩ = some (.int .i64 0) := (blk_cell BK301.out 9).trans rfl; have hcz15_10 : w13.cell? ⟨gb301, 10, none⟩ = some (.int .i64 0) := (blk_cell BK301.out 10).trans rfl; have hfz15_0 := blk_frozen BK301.out 0; have hfz15_1 := blk_frozen BK301.out 1; have hfz15_2 := blk_frozen BK301.out 2; have hfz15_3 := blk_frozen BK301.out 3; have hfz15_4 := blk_frozen BK301.out 4; have hfz15_5 := blk_frozen BK301.out 5; have hfz15_6 := blk_frozen BK301.out 6; have hfz15_7 := blk_frozen BK301.out 7; have hfz15_8 := blk_frozen BK301.out 8; have hfz15_9 := blk_frozen BK301.out 9; have hfz15_10 := blk_frozen BK301.out 10; have hcz16_0 : w13.cell? ⟨gb287, 0, none⟩ = some (.int .i64 a0_0) := (blk_cell BK287.out 0).trans rfl; have hcz16_1 : w13.cell? ⟨gb287, 1, none⟩ = some (.int .i64 a0_1) := (blk_cell BK287.out 1).trans rfl; have hcz16_2 : w13.cell? ⟨gb287, 2, none⟩ = some (.int .i64 a0_2) := (blk_cell BK287.out 2).trans rfl; have hcz16_3 : w13.cell? ⟨gb287, 3, none⟩ = some (.int .i64 a0_3) := (blk_cell BK287.out 3).trans rfl; have hcz16_4 : w13.cell? ⟨gb287, 4, none⟩ = some (.int .i64 a0_4) := (blk_cell BK287.out 4).trans rfl; have hcz16_5 : w13.cell? ⟨gb287, 5, none⟩ = some (.int .i64 a0_5) := (blk_cell BK287.out 5).trans rfl; have hcz16_6 : w13.cell? ⟨gb287, 6, none⟩ = some (.bool a0_6) := (blk_cell BK287.out 6).trans rfl; have hfz16_0 := blk_frozen BK287.out 0; have hfz16_1 := blk_frozen BK287.out 1; have hfz16_2 := blk_frozen BK287.out 2; have hfz16_3 := blk_frozen BK287.out 3; have hfz16_4 := blk_frozen BK287.out 4; have hfz16_5 := blk_frozen BK287.out 5; have hfz16_6 := blk_frozen BK287.out 6) | ((with_reducible refine gate_callee (f := 13) rfl ?_); refine goesL_ (some 22) rfl rfl Try.func13 (by kernel_rfl) rfl #[.agg #[.int .i64 a0_0, .int .i64 a0_1, .int .i64 a0_2, .int .i64 a0_3, .int .i64 a0_4, .int .i64 a0_5, .bool a0_6]] rfl (by (try simp only [List.map_toArray, List.map_cons, List.map_nil]); first | done | rfl | (simp only [List.length_drop, List.length_take]; rfl)) ?_; (with_reducible refine (ferruleref16_Span.calls a0_0 a0_1 a0_2 a0_3 a0_4 a0_5 a0_6 t302 _ A7.out).mono ?_); rintro e w17 ⟨rfl, hb⟩; refine ⟨_, rfl, ?_⟩; have n0_ := Aside0.mk (blk_below (g := gb287) (o := .cells #[.int .i64 a0_0, .int .i64 a0_1, .int .i64 a0_2, .int .i64 a0_3, .int .i64 a0_4, .int .i64 a0_5, .bool a0_6] 29 (0, 0)) (by (with_reducible repeat (first | refine blk_drewN ?_ _ | refine blk_drew ?_ | refine blk_alloc ?_ _)); refine blk_far ?_ NB287_301.out _; (with_reducible repeat (first | refine blk_drewN ?_ _ | refine blk_drew ?_ | refine blk_alloc ?_ _)); refine blk_far ?_ NB287_301.out _; (with_reducible repeat (first | refine blk_drewN ?_ _ | refine blk_drew ?_ | refine blk_alloc ?_ _)); refine blk_far ?_ NB287_301.out _; (with_reducible repeat (first | refine blk_drewN ?_ _ | refine blk_drew ?_ | refine blk_alloc ?_ _)); refine blk_far ?_ NB287_301.out _; (with_reducible repeat (first | refine blk_drewN ?_ _ | refine blk_drew ?_ | refine blk_alloc ?_ _)); refine blk_far ?_ NB287_301.out _; (with_reducible repeat (first | refine blk_drewN ?_ _ | refine blk_drew ?_ | refine blk_alloc ?_ _)); refine blk_far ?_ NB287_301.out _; (with_reducible repeat (first | refine blk_drewN ?_ _ | refine blk_drew ?_ | refine blk_alloc ?_ _)); refine blk_far ?_ NB287_301.out _; (with_reducible repeat (first | refine blk_drewN ?_ _ | refine blk_drew ?_ | refine blk_alloc ?_ _)); refine blk_far ?_ NB287_301.out _; (with_reducible repeat (first | refine blk_drewN ?_ _ | refine blk_drew ?_ | refine blk_alloc ?_ _)); refine blk_far ?_ NB287_301.out _; (with_reducible repeat (first | refine blk_drewN ?_ _ | refine blk_drew ?_ | refine blk_alloc ?_ _)); refine blk_far ?_ NB287_301.out _; (with_reducible repeat (first | refine blk_drewN ?_ _ | refine blk_drew ?_ | refine blk_alloc ?_ _)); refine blk_far ?_ NB287_301.out _; (with_reducible repeat (first | refine blk_drewN ?_ _ | refine blk_drew ?_ | refine blk_alloc ?_ _)); exact BK287.out) hb); have n1_ := Aside0.mk (blk_below (g := gb301) (o := .cells #[.int .i64 t289, .int .i64 t290, .int .i64 t291, .int .i64 t292, .int .i64 t293, .int .i64 t294, .int .i64 t295, .int .i64 t296, .int .i64 t297, .int .i64 t298, .int .i64 t299] 24 (0, 0)) (by (with_reducible repeat (first | refine blk_drewN ?_ _ | refine blk_drew ?_ | refine blk_alloc ?_ _)); refine blk_put (cs := #[.int .i64 t289, .int .i64 t290, .int .i64 t291, .int .i64 t292, .int .i64 t293, .int .i64 t294, .int .i64 t295, .int .i64 t296, .int .i64 t297, .int .i64 t298, .int .i64 0]) ?_ 10 _ rfl; (with_reducible repeat (first | refine blk_drewN ?_ _ | refine blk_drew ?_ | refine blk_alloc ?_ _)); refine blk_put (cs := #[.int .i64 t289, .int .i64 t290, .int .i64 t291, .int .i64 t292, .int .i64 t293, .int .i64 t294, .int .i64 t295, .int .i64 t296, .int .i64 t297, .int .i64 0, .int .i64 0]) ?_ 9 _ rfl; (with_reducible repeat (first | refine blk_drewN ?_ _ | refine blk_drew ?_ | refine blk_alloc ?_ _)); refine blk_put (cs := #[.int .i64 t289, .int .i64 t290, .int .i64 t291, .int .i64 t292, .int .i64 t293, .int .i64 t294, .int .i64 t295, .int .i64 t296, .int .i64 0, .int .i64 0, .int .i64 0]) ?_ 8 _ rfl; (with_reducible repeat (first | refine blk_drewN ?_ _ | refine blk_drew ?_ | refine blk_alloc ?_ _)); refine blk_put (cs := #[.int .i64 t289, .int .i64 t290, .int .i64 t291, .int .i64 t292, .int .i64 t293, .int .i64 t294, .int .i64 t295, .int .i64 0, .int .i64 0, .int .i64 0, .int .i64 0]) ?_ 7 _ rfl; (with_reducible repeat (first | refine blk_drewN ?_ _ | refine blk_drew ?_ | refine blk_alloc ?_ _)); refine blk_put (cs := #[.int .i64 t289, .int .i64 t290, .int .i64 t291, .int .i64 t292, .int .i64 t293, .int .i64 t294, .int .i64 0, .int .i64 0, .int .i64 0, .int .i64 0, .int .i64 0]) ?_ 6 _ rfl; (with_reducible repeat (first | refine blk_drewN ?_ _ | refine blk_drew ?_ | refine blk_alloc ?_ _)); refine blk_put (cs := #[.int .i64 t289, .int .i64 t290, .int .i64 t291, .int .i64 t292, .int .i64 t293, .int .i64 0, .int .i64 0, .int .i64 0, .int .i64 0, .int .i64 0, .int .i64 0]) ?_ 5 _ rfl; (with_reducible repeat (first | refine blk_drewN ?_ _ | refine blk_drew ?_ | refine blk_alloc ?_ _)); refine blk_put (cs := #[.int .i64 t289, .int .i64 t290, .int .i64 t291, .int .i64 t292, .int .i64 0, .int .i64 0, .int .i64 0, .int .i64 0, .int .i64 0, .int .i64 0, .int .i64 0]) ?_ 4 _ rfl; (with_reducible repeat (first | refine blk_drewN ?_ _ | refine blk_drew ?_ | refine blk_alloc ?_ _)); refine blk_put (cs := #[.int .i64 t289, .int .i64 t290, .int .i64 t291, .int .i64 0, .int .i64 0, .int .i64 0, .int .i64 0, .int .i64 0, .int .i64 0, .int .i64 0, .int .i64 0]) ?_ 3 _ rfl; (with_reducible repeat (first | refine blk_drewN ?_ _ | refine blk_drew ?_ | refine blk_alloc ?_ _)); refine blk_put (cs := #[.int .i64 t289, .int .i64 t290, .int .i64 0, .int .i64 0, .int .i64 0, .int .i64 0, .int .i64 0, .int .i64 0, .int .i64 0, .int .i64 0, .int .i64 0]) ?_ 2 _ rfl; (with_reducible repeat (first | refine blk_drewN ?_ _ | refine blk_drew ?_ | refine blk_alloc ?_ _)); refine blk_put (cs := #[.int .i64 t289, .int .i64 0, .int .i64 0, .int .i64 0, .int .i64 0, .int .i64 0, .int .i64 0, .int .i64 0, .int .i64 0, .int .i64 0, .int .i64 0]) ?_ 1 _ rfl; (with_reducible repeat (first | refine blk_drewN ?_ _ | refine blk_drew ?_ | refine blk_alloc ?_ _)); refine blk_put (cs := #[.int .i64 0, .int .i64 0, .int .i64 0, .int .i64 0, .int .i64 0, .int .i64 0, .int .i64 0, .int .i64 0, .int .i64 0, .int .i64 0, .int .i64 0]) ?_ 0 _ rfl; (with_reducible repeat (first | refine blk_drewN ?_ _ | refine blk_drew ?_ | refine blk_alloc ?_ _)); exact BK301.out) hb); have n2_ := Aside0.mk (below_step (by repeat (first | (with_reducible first | exact HB.out | apply below_alloc | apply pw_below_drewN | apply below_drew1 | refine below_set ?_ GE287.out | refine below_set ?_ GE301.out) | exact HB.out)) hb); clear BK287; clear BK301; clear HB; have BK287 := n0_; have BK301 := n1_; have HB := n2_; clear n0_ n1_ n2_; (try clear hb); (try clear hb2); (try clear hk); (try clear hi)))
 (try simp only [Act.put, List.setIfInBounds_toArray, List.set_cons_zero, List.set_cons_succ])
 go_cut [] (fun wc => ∃ (kq : Nat), Aside0 (ferrulelaw16_SizeTells.j0 kq a1 a2 a0_0 a0_1 a0_2 a0_3 a0_4 a0_5 a0_6 = some r) ∧ Aside0 (kq ≤ k) ∧ Aside0 (wc.heap[gb287]? = some (.cells #[.int .i64 a0_0, .int .i64 a0_1, .int .i64 a0_2, .int .i64 a0_3, .int .i64 a0_4, .int .i64 a0_5, .bool a0_6] 29 (0, 0))) ∧ Aside0 (wc.heap[gb301]? = some (.cells #[.int .i64 t289, .int .i64 t290, .int .i64 t291, .int .i64 t292, .int .i64 t293, .int .i64 t294, .int .i64 t295, .int .i64 t296, .int .i64 t297, .int .i64 t298, .int .i64 t299] 24 (0, 0))) ∧ Aside0 (Below w.heap.size w wc))
 case first =>
  have H := HC8.out
  clear HC8
  by_cases c18 : t302 = true
  {
  subst c18
  have H1 : (if t300 = 0 then ((ferruleref16_Of.f k a0_0 a0_1 a0_2 a0_3 a0_4 a0_5 a0_6).bind fun bt303 => ((ferrulelaw16_is.f t289 t290 t291 t292 t293 t294 t295 t296 t297 t298 t299 bt303.1 bt303.2.1 bt303.2.2.1 bt303.2.2.2.1 bt303.2.2.2.2.1 bt303.2.2.2.2.2.1 bt303.2.2.2.2.2.2.1 bt303.2.2.2.2.2.2.2.1 bt303.2.2.2.2.2.2.2.2.1 bt303.2.2.2.2.2.2.2.2.2.1 bt303.2.2.2.2.2.2.2.2.2.2).bind fun t314 => (if t314 = true then (ferrulelaw16_SizeTells.j0 k a1 a2 a0_0 a0_1 a0_2 a0_3 a0_4 a0_5 a0_6) else (some false)))) else (some false)) = some r := by rw [if_pos rfl] at H; exact H
  clear H
  have H := H1
  clear H1
  by_cases c19 : t300 = 0
  {
  rw [if_pos c19] at H
  have c19b0 : (t300 == 0) = true := beq_iff_eq.mpr c19
  have c19b1 : (t300 != 0) = false := bne_eq_false_iff_eq.mpr c19
  clear c19
  (first | rw [c19b0] | (simp only [i64_w, i32_w]; rw [c19b0]) | skip)
  replace H := Option.bind_eq_some_iff.mp H
  obtain ⟨⟨t303, t304, t305, t306, t307, t308, t309, t310, t311, t312, t313⟩, A200, H⟩ := H
  replace H : ((ferrulelaw16_is.f t289 t290 t291 t292 t293 t294 t295 t296 t297 t298 t299 t303 t304 t305 t306 t307 t308 t309 t310 t311 t312 t313).bind fun t314 => (if t314 = true then (ferrulelaw16_SizeTells.j0 k a1 a2 a0_0 a0_1 a0_2 a0_3 a0_4 a0_5 a0_6) else (some false))) = some r := H
  have A20 := Aside0.mk A200
  clear A200
  replace H := Option.bind_eq_some_iff.mp H
  obtain ⟨t314, A210, H⟩ := H
  replace H : (if t314 = true then (ferrulelaw16_SizeTells.j0 k a1 a2 a0_0 a0_1 a0_2 a0_3 a0_4 a0_5 a0_6) else (some false)) = some r := H
  have A21 := Aside0.mk A210
  clear A210
  by_cases c22 : t314 = true
  {
  subst c22
  have H1 : (ferrulelaw16_SizeTells.j0 k a1 a2 a0_0 a0_1 a0_2 a0_3 a0_4 a0_5 a0_6) = some r := by rw [if_pos rfl] at H; exact H
  clear H
  have H := H1
  clear H1
  have H' := Aside0.mk H
  clear H
  try go_wp2
  have n0_ := Aside0.mk (blk_drew BK287.out)
  have n1_ := Aside0.mk (blk_drew BK301.out)
  have n2_ := Aside0.mk (below_drew1 HB.out)
  clear BK287
  clear BK301
  clear HB
  have BK287 := n0_
  have BK301 := n1_
  have HB := n2_
  clear n0_ n1_ n2_
  refine start_ (n := 9) (S := fun w' => w'.cell? ⟨gb301, 0, none⟩ = some (.int .i64 t289) ∧ w'.cell? ⟨gb301, 1, none⟩ = some (.int .i64 t290) ∧ w'.cell? ⟨gb301, 2, none⟩ = some (.int .i64 t291) ∧ w'.cell? ⟨gb301, 3, none⟩ = some (.int .i64 t292) ∧ w'.cell? ⟨gb301, 4, none⟩ = some (.int .i64 t293) ∧ w'.cell? ⟨gb301, 5, none⟩ = some (.int .i64 t294) ∧ w'.cell? ⟨gb301, 6, none⟩ = some (.int .i64 t295) ∧ w'.cell? ⟨gb301, 7, none⟩ = some (.int .i64 t296) ∧ w'.cell? ⟨gb301, 8, none⟩ = some (.int .i64 t297) ∧ w'.cell? ⟨gb301, 9, none⟩ = some (.int .i64 t298) ∧ w'.cell? ⟨gb301, 10, none⟩ = some (.int .i64 t299) ∧ w'.cell? ⟨gb287, 0, none⟩ = some (.int .i64 a0_0) ∧ w'.cell? ⟨gb287, 1, none⟩ = some (.int .i64 a0_1) ∧ w'.cell? ⟨gb287, 2, none⟩ = some (.int .i64 a0_2) ∧ w'.cell? ⟨gb287, 3, none⟩ = some (.int .i64 a0_3) ∧ w'.cell? ⟨gb287, 4, none⟩ = some (.int .i64 a0_4) ∧ w'.cell? ⟨gb287, 5, none⟩ = some (.int .i64 a0_5) ∧ w'.cell? ⟨gb287, 6, none⟩ = some (.bool a0_6)) (ds := []) #[false, false, false, false, false, false, false, false, false] (by kernel_rfl) rfl rfl ⟨(blk_cell BK301.out 0).trans rfl, (blk_cell BK301.out 1).trans rfl, (blk_cell BK301.out 2).trans rfl, (blk_cell BK301.out 3).trans rfl, (blk_cell BK301.out 4).trans rfl, (blk_cell BK301.out 5).trans rfl, (blk_cell BK301.out 6).trans rfl, (blk_cell BK301.out 7).trans rfl, (blk_cell BK301.out 8).trans rfl, (blk_cell BK301.out 9).trans rfl, (blk_cell BK301.out 10).trans rfl, (blk_cell BK287.out 0).trans rfl, (blk_cell BK287.out 1).trans rfl, (blk_cell BK287.out 2).trans rfl, (blk_cell BK287.out 3).trans rfl, (blk_cell BK287.out 4).trans rfl, (blk_cell BK287.out 5).trans rfl, (blk_cell BK287.out 6).trans rfl⟩ (fun hHeld => ?_); refine with_tabW ferrulelaw16_SizeTells.tab7 ferrulelaw16_SizeTells.bits7 (fun HT_ HW_ => ?_)
  generalize w17.drew = w23 at BK287 BK301 HB hHeld ⊢
  refine pure_ (i := 0) (N := some 35) (v := ?_) (a' := ?_) #[true, false, false, false, false, false, false, false, false] rfl rfl (any_of HT_.out (by kernel_rfl)) (fun _ _ _ h => h) (Or.inl ⟨by rfl, ?_⟩) ?_ ?_
  rotate_left
  {
  intro w'
  go_simp
  with_reducible rfl
  }
  rotate_left
  {
  simp only [Act.put, List.setIfInBounds_toArray, List.set_cons_zero, List.set_cons_succ, i64_w, i32_w]
  rfl
  }
  refine pure_ (i := 1) (N := some 36) (v := ?_) (a' := ?_) #[true, true, false, false, false, false, false, false, false] rfl rfl (any_of HT_.out (by kernel_rfl)) (fun _ _ _ h => h) (Or.inl ⟨by rfl, ?_⟩) ?_ ?_
  rotate_left
  {
  intro w'
  go_simp
  with_reducible rfl
  }
  rotate_left
  {
  simp only [Act.put, List.setIfInBounds_toArray, List.set_cons_zero, List.set_cons_succ, i64_w, i32_w]
  rfl
  }
  refine pure_ (i := 2) (N := some 37) (v := ?_) (a' := ?_) #[true, true, true, false, false, false, false, false, false] rfl rfl (any_of HT_.out (by kernel_rfl)) (fun _ _ _ h => h) (Or.inl ⟨by rfl, ?_⟩) ?_ ?_
  rotate_left
  {
  intro w'
  go_simp
  with_reducible rfl
  }
  rotate_left
  {
  simp only [Act.put, List.setIfInBounds_toArray, List.set_cons_zero, List.set_cons_succ, i64_w, i32_w]
  rfl
  }
  refine take_ (i := 3) (N := some 38) (v := ?_) (a' := ?_) #[true, true, true, true, false, false, false, false, false] rfl rfl (take_ofW HT_.out HW_.out (by kernel_rfl)) (fun _ _ _ h => h) (Or.inl ⟨by rfl, ?_⟩) hHeld ?_ ?_
  rotate_left
  {
  rintro w' ⟨s0, s1, s2, s3, s4, s5, s6, s7, s8, s9, s10, s11, s12, s13, s14, s15, s16, s17⟩
  go_simp
  with_reducible rfl
  }
  rotate_left
  {
  simp only [Act.put, List.setIfInBounds_toArray, List.set_cons_zero, List.set_cons_succ, i64_w, i32_w]
  rfl
  }
  refine take_ (i := 4) (N := some 39) (v := ?_) (a' := ?_) #[true, true, true, true, true, false, false, false, false] rfl rfl (take_ofW HT_.out HW_.out (by kernel_rfl)) (fun _ _ _ h => h) (Or.inl ⟨by rfl, ?_⟩) hHeld ?_ ?_
  rotate_left
  {
  rintro w' ⟨s0, s1, s2, s3, s4, s5, s6, s7, s8, s9, s10, s11, s12, s13, s14, s15, s16, s17⟩
  go_simp
  with_reducible rfl
  }
  rotate_left
  {
  simp only [Act.put, List.setIfInBounds_toArray, List.set_cons_zero, List.set_cons_succ, i64_w, i32_w]
  rfl
  }
  refine one_ (i := 5) (N := some 40) #[true, true, true, true, true, true, false, false, false] rfl rfl (one_of HT_.out (by kernel_rfl)) (by decide) (fun K hK => ?_)
  refine goes_ Try.func15 (by kernel_rfl) rfl #[.agg #[.int .i64 a0_0, .int .i64 a0_1, .int .i64 a0_2, .int .i64 a0_3, .int .i64 a0_4, .int .i64 a0_5, .bool a0_6]] (by rfl) rfl rfl (by (try simp only [List.map_toArray, List.map_cons, List.map_nil]); first | done | rfl | (simp only [List.length_drop, List.length_take]; rfl)) ?_
  with_reducible refine (ferruleref16_Of.calls k a0_0 a0_1 a0_2 a0_3 a0_4 a0_5 a0_6 t303 t304 t305 t306 t307 t308 t309 t310 t311 t312 t313 _ A20.out).mono ?_
  rintro e w24 ⟨rfl, hb⟩
  refine ⟨_, rfl, ?_⟩
  have n0_ := Aside0.mk (blk_below (g := gb287) (o := .cells #[.int .i64 a0_0, .int .i64 a0_1, .int .i64 a0_2, .int .i64 a0_3, .int .i64 a0_4, .int .i64 a0_5, .bool a0_6] 29 (0, 0)) (by (with_reducible repeat (first | refine blk_drewN ?_ _ | refine blk_drew ?_ | refine blk_alloc ?_ _)); exact BK287.out) hb)
  have n1_ := Aside0.mk (blk_below (g := gb301) (o := .cells #[.int .i64 t289, .int .i64 t290, .int .i64 t291, .int .i64 t292, .int .i64 t293, .int .i64 t294, .int .i64 t295, .int .i64 t296, .int .i64 t297, .int .i64 t298, .int .i64 t299] 24 (0, 0)) (by (with_reducible repeat (first | refine blk_drewN ?_ _ | refine blk_drew ?_ | refine blk_alloc ?_ _)); exact BK301.out) hb)
  have n2_ := Aside0.mk (below_step (by repeat (first | (with_reducible first | exact HB.out | apply below_alloc | apply pw_below_drewN | apply below_drew1 | refine below_set ?_ GE287.out | refine below_set ?_ GE301.out) | exact HB.out)) hb)
  clear BK287
  clear BK301
  clear HB
  have BK287 := n0_
  have BK301 := n1_
  have HB := n2_
  clear n0_ n1_ n2_
  (try clear hb)
  (try clear hb2)
  (try clear hk)
  (try clear hi)
  refine hK.out _ _ ⟨(blk_cell BK301.out 0).trans rfl, (blk_cell BK301.out 1).trans rfl, (blk_cell BK301.out 2).trans rfl, (blk_cell BK301.out 3).trans rfl, (blk_cell BK301.out 4).trans rfl, (blk_cell BK301.out 5).trans rfl, (blk_cell BK301.out 6).trans rfl, (blk_cell BK301.out 7).trans rfl, (blk_cell BK301.out 8).trans rfl, (blk_cell BK301.out 9).trans rfl, (blk_cell BK301.out 10).trans rfl, (blk_cell BK287.out 0).trans rfl, (blk_cell BK287.out 1).trans rfl, (blk_cell BK287.out 2).trans rfl, (blk_cell BK287.out 3).trans rfl, (blk_cell BK287.out 4).trans rfl, (blk_cell BK287.out 5).trans rfl, (blk_cell BK287.out 6).trans rfl⟩ (fun hHeld => ?_)
  clear hK K
  refine norm_ (a' := ?_) ?_ ?_
  rotate_left
  {
  show Act.put _ (some 40) _ = _
  simp only [Act.put, List.setIfInBounds_toArray, List.set_cons_zero, List.set_cons_succ, i64_w, i32_w]
  rfl
  }
  refine one_ (i := 6) (N := some 41) #[true, true, true, true, true, true, true, false, false] rfl rfl (one_of HT_.out (by kernel_rfl)) (by decide) (fun K hK => ?_)
  refine goes_ Try.func14 (by kernel_rfl) rfl #[.agg #[.int .i64 t289, .int .i64 t290, .int .i64 t291, .int .i64 t292, .int .i64 t293, .int .i64 t294, .int .i64 t295, .int .i64 t296, .int .i64 t297, .int .i64 t298, .int .i64 t299], .agg #[.int .i64 t303, .int .i64 t304, .int .i64 t305, .int .i64 t306, .int .i64 t307, .int .i64 t308, .int .i64 t309, .int .i64 t310, .int .i64 t311, .int .i64 t312, .int .i64 t313]] (by rfl) rfl rfl (by (try simp only [List.map_toArray, List.map_cons, List.map_nil]); first | done | rfl | (simp only [List.length_drop, List.length_take]; rfl)) ?_
  with_reducible refine (ferrulelaw16_is.calls t289 t290 t291 t292 t293 t294 t295 t296 t297 t298 t299 t303 t304 t305 t306 t307 t308 t309 t310 t311 t312 t313 true _ A21.out).mono ?_
  rintro e w25 ⟨rfl, hb⟩
  refine ⟨_, rfl, ?_⟩
  have n0_ := Aside0.mk (blk_below (g := gb287) (o := .cells #[.int .i64 a0_0, .int .i64 a0_1, .int .i64 a0_2, .int .i64 a0_3, .int .i64 a0_4, .int .i64 a0_5, .bool a0_6] 29 (0, 0)) (by (with_reducible repeat (first | refine blk_drewN ?_ _ | refine blk_drew ?_ | refine blk_alloc ?_ _)); exact BK287.out) hb)
  have n1_ := Aside0.mk (blk_below (g := gb301) (o := .cells #[.int .i64 t289, .int .i64 t290, .int .i64 t291, .int .i64 t292, .int .i64 t293, .int .i64 t294, .int .i64 t295, .int .i64 t296, .int .i64 t297, .int .i64 t298, .int .i64 t299] 24 (0, 0)) (by (with_reducible repeat (first | refine blk_drewN ?_ _ | refine blk_drew ?_ | refine blk_alloc ?_ _)); exact BK301.out) hb)
  have n2_ := Aside0.mk (below_step (by repeat (first | (with_reducible first | exact HB.out | apply below_alloc | apply pw_below_drewN | apply below_drew1 | refine below_set ?_ GE287.out | refine below_set ?_ GE301.out) | exact HB.out)) hb)
  clear BK287
  clear BK301
  clear HB
  have BK287 := n0_
  have BK301 := n1_
  have HB := n2_
  clear n0_ n1_ n2_
  (try clear hb)
  (try clear hb2)
  (try clear hk)
  (try clear hi)
  refine hK.out _ _ ⟨(blk_cell BK301.out 0).trans rfl, (blk_cell BK301.out 1).trans rfl, (blk_cell BK301.out 2).trans rfl, (blk_cell BK301.out 3).trans rfl, (blk_cell BK301.out 4).trans rfl, (blk_cell BK301.out 5).trans rfl, (blk_cell BK301.out 6).trans rfl, (blk_cell BK301.out 7).trans rfl, (blk_cell BK301.out 8).trans rfl, (blk_cell BK301.out 9).trans rfl, (blk_cell BK301.out 10).trans rfl, (blk_cell BK287.out 0).trans rfl, (blk_cell BK287.out 1).trans rfl, (blk_cell BK287.out 2).trans rfl, (blk_cell BK287.out 3).trans rfl, (blk_cell BK287.out 4).trans rfl, (blk_cell BK287.out 5).trans rfl, (blk_cell BK287.out 6).trans rfl⟩ (fun hHeld => ?_)
  clear hK K
  refine norm_ (a' := ?_) ?_ ?_
  rotate_left
  {
  show Act.put _ (some 41) _ = _
  simp only [Act.put, List.setIfInBounds_toArray, List.set_cons_zero, List.set_cons_succ, i64_w, i32_w]
  rfl
  }
  refine pure_ (i := 7) (N := some 42) (v := ?_) (a' := ?_) #[true, true, true, true, true, true, true, true, false] rfl rfl (any_of HT_.out (by kernel_rfl)) (fun _ _ _ h => h) (Or.inl ⟨by rfl, ?_⟩) ?_ ?_
  rotate_left
  {
  intro w'
  go_simp
  with_reducible rfl
  }
  rotate_left
  {
  simp only [Act.put, List.setIfInBounds_toArray, List.set_cons_zero, List.set_cons_succ, i64_w, i32_w]
  rfl
  }
  refine pure_ (i := 8) (N := some 43) (v := ?_) (a' := ?_) #[true, true, true, true, true, true, true, true, true] rfl rfl (any_of HT_.out (by kernel_rfl)) (fun _ _ _ h => h) (Or.inl ⟨by rfl, ?_⟩) ?_ ?_
  rotate_left
  {
  intro w'
  go_simp
  with_reducible rfl
  }
  rotate_left
  {
  simp only [Act.put, List.setIfInBounds_toArray, List.set_cons_zero, List.set_cons_succ, i64_w, i32_w]
  rfl
  }
  refine done_ (done_of HT_.out (by kernel_rfl)) ?_
  try go_wp2
  go_meet
  case rel => exact ⟨_, H', ⟨by first | omega | exact Nat.le_refl _⟩, ⟨by (with_reducible repeat (first | refine blk_drewN ?_ _ | refine blk_drew ?_ | refine blk_alloc ?_ _)); exact BK287.out⟩, ⟨by (with_reducible repeat (first | refine blk_drewN ?_ _ | refine blk_drew ?_ | refine blk_alloc ?_ _)); exact BK301.out⟩, ⟨by repeat (first | (with_reducible first | exact HB.out | apply below_alloc | apply pw_below_drewN | apply below_drew1 | refine below_set ?_ GE287.out | refine below_set ?_ GE301.out) | exact HB.out)⟩⟩
  }
  {
  replace c22 := Bool.eq_false_iff.mpr c22
  subst c22
  have H1 : (some false) = some r := by rw [if_neg (show ¬ (false = true) by decide)] at H; exact H
  exact absurd ((Option.some.inj H1).trans Hr) (by decide)
  }
  }
  {
  rw [if_neg c19] at H
  exact absurd ((Option.some.inj H).trans Hr) (by decide)
  }
  }
  {
  replace c18 := Bool.eq_false_iff.mpr c18
  subst c18
  have H1 : (if t300 = 1 then (if (!(t289 == 0) || (!(t290 == 0) || (!(t291 == 0) || (!(t292 == 0) || (!(t293 == 0) || (!(t294 == 0) || (!(t295 == 0) || (!(t296 == 0) || (!(t297 == 0) || (!(t298 == 0) || (!(t299 == 0)))))))))))) = true then (some false) else ((size_Good.f k a0_0 a0_1 a0_2 a0_3 a0_4 a0_5 a0_6).bind fun t315 => (if t315 = true then (some false) else (ferrulelaw16_SizeTells.j0 k a1 a2 a0_0 a0_1 a0_2 a0_3 a0_4 a0_5 a0_6)))) else (some false)) = some r := by rw [if_neg (show ¬ (false = true) by decide)] at H; exact H
  clear H
  have H := H1
  clear H1
  by_cases c30 : t300 = 1
  {
  rw [if_pos c30] at H
  have c30b0 : (t300 == 1) = true := beq_iff_eq.mpr c30
  have c30b1 : (t300 != 1) = false := bne_eq_false_iff_eq.mpr c30
  clear c30
  by_cases c31 : (!(t289 == 0) || (!(t290 == 0) || (!(t291 == 0) || (!(t292 == 0) || (!(t293 == 0) || (!(t294 == 0) || (!(t295 == 0) || (!(t296 == 0) || (!(t297 == 0) || (!(t298 == 0) || (!(t299 == 0)))))))))))) = true
  {
  rw [if_pos c31] at H
  have c31b0 : (!(t289 == 0) || (!(t290 == 0) || (!(t291 == 0) || (!(t292 == 0) || (!(t293 == 0) || (!(t294 == 0) || (!(t295 == 0) || (!(t296 == 0) || (!(t297 == 0) || (!(t298 == 0) || (!(t299 == 0)))))))))))) = true := c31
  clear c31
  exact absurd ((Option.some.inj H).trans Hr) (by decide)
  }
  {
  rw [if_neg c31] at H
  have c31b0 : (!(t289 == 0) || (!(t290 == 0) || (!(t291 == 0) || (!(t292 == 0) || (!(t293 == 0) || (!(t294 == 0) || (!(t295 == 0) || (!(t296 == 0) || (!(t297 == 0) || (!(t298 == 0) || (!(t299 == 0)))))))))))) = false := by simpa using c31
  clear c31
  replace H := Option.bind_eq_some_iff.mp H
  obtain ⟨t315, A340, H⟩ := H
  replace H : (if t315 = true then (some false) else (ferrulelaw16_SizeTells.j0 k a1 a2 a0_0 a0_1 a0_2 a0_3 a0_4 a0_5 a0_6)) = some r := H
  have A34 := Aside0.mk A340
  clear A340
  by_cases c35 : t315 = true
  {
  subst c35
  have H1 : (some false) = some r := by rw [if_pos rfl] at H; exact H
  exact absurd ((Option.some.inj H1).trans Hr) (by decide)
  }
  {
  replace c35 := Bool.eq_false_iff.mpr c35
  subst c35
  have H1 : (ferrulelaw16_SizeTells.j0 k a1 a2 a0_0 a0_1 a0_2 a0_3 a0_4 a0_5 a0_6) = some r := by rw [if_neg (show ¬ (false = true) by decide)] at H; exact H
  clear H
  have H := H1
  clear H1
  have H' := Aside0.mk H
  clear H
  have hnb40 := NB301_287.out
  have hnc40 := NB287_301.out
  have hcz41_0 : w17.cell? ⟨gb301, 0, none⟩ = some (.int .i64 t289) := (blk_cell BK301.out 0).trans rfl
  have hcz41_1 : w17.cell? ⟨gb301, 1, none⟩ = some (.int .i64 t290) := (blk_cell BK301.out 1).trans rfl
  have hcz41_2 : w17.cell? ⟨gb301, 2, none⟩ = some (.int .i64 t291) := (blk_cell BK301.out 2).trans rfl
  have hcz41_3 : w17.cell? ⟨gb301, 3, none⟩ = some (.int .i64 t292) := (blk_cell BK301.out 3).trans rfl
  have hcz41_4 : w17.cell? ⟨gb301, 4, none⟩ = some (.int .i64 t293) := (blk_cell BK301.out 4).trans rfl
  have hcz41_5 : w17.cell? ⟨gb301, 5, none⟩ = some (.int .i64 t294) := (blk_cell BK301.out 5).trans rfl
  have hcz41_6 : w17.cell? ⟨gb301, 6, none⟩ = some (.int .i64 t295) := (blk_cell BK301.out 6).trans rfl
  have hcz41_7 : w17.cell? ⟨gb301, 7, none⟩ = some (.int .i64 t296) := (blk_cell BK301.out 7).trans rfl
  have hcz41_8 : w17.cell? ⟨gb301, 8, none⟩ = some (.int .i64 t297) := (blk_cell BK301.out 8).trans rfl
  have hcz41_9 : w17.cell? ⟨gb301, 9, none⟩ = some (.int .i64 t298) := (blk_cell BK301.out 9).trans rfl
  have hcz41_10 : w17.cell? ⟨gb301, 10, none⟩ = some (.int .i64 t299) := (blk_cell BK301.out 10).trans rfl
  have hfz41_0 := blk_frozen BK301.out 0
  have hfz41_1 := blk_frozen BK301.out 1
  have hfz41_2 := blk_frozen BK301.out 2
  have hfz41_3 := blk_frozen BK301.out 3
  have hfz41_4 := blk_frozen BK301.out 4
  have hfz41_5 := blk_frozen BK301.out 5
  have hfz41_6 := blk_frozen BK301.out 6
  have hfz41_7 := blk_frozen BK301.out 7
  have hfz41_8 := blk_frozen BK301.out 8
  have hfz41_9 := blk_frozen BK301.out 9
  have hfz41_10 := blk_frozen BK301.out 10
  have hcz42_0 : w17.cell? ⟨gb287, 0, none⟩ = some (.int .i64 a0_0) := (blk_cell BK287.out 0).trans rfl
  have hcz42_1 : w17.cell? ⟨gb287, 1, none⟩ = some (.int .i64 a0_1) := (blk_cell BK287.out 1).trans rfl
  have hcz42_2 : w17.cell? ⟨gb287, 2, none⟩ = some (.int .i64 a0_2) := (blk_cell BK287.out 2).trans rfl
  have hcz42_3 : w17.cell? ⟨gb287, 3, none⟩ = some (.int .i64 a0_3) := (blk_cell BK287.out 3).trans rfl
  have hcz42_4 : w17.cell? ⟨gb287, 4, none⟩ = some (.int .i64 a0_4) := (blk_cell BK287.out 4).trans rfl
  have hcz42_5 : w17.cell? ⟨gb287, 5, none⟩ = some (.int .i64 a0_5) := (blk_cell BK287.out 5).trans rfl
  have hcz42_6 : w17.cell? ⟨gb287, 6, none⟩ = some (.bool a0_6) := (blk_cell BK287.out 6).trans rfl
  have hfz42_0 := blk_frozen BK287.out 0
  have hfz42_1 := blk_frozen BK287.out 1
  have hfz42_2 := blk_frozen BK287.out 2
  have hfz42_3 := blk_frozen BK287.out 3
  have hfz42_4 := blk_frozen BK287.out 4
  have hfz42_5 := blk_frozen BK287.out 5
  have hfz42_6 := blk_frozen BK287.out 6
  go_wp2_with (first | (go_at_call 12; (with_reducible refine (size_Good.calls k a0_0 a0_1 a0_2 a0_3 a0_4 a0_5 a0_6 false _ A34.out).mono ?_); rintro e w43 ⟨rfl, hb⟩; have n0_ := Aside0.mk (blk_below (g := gb287) (o := .cells #[.int .i64 a0_0, .int .i64 a0_1, .int .i64 a0_2, .int .i64 a0_3, .int .i64 a0_4, .int .i64 a0_5, .bool a0_6] 29 (0, 0)) (by (with_reducible repeat (first | refine blk_drewN ?_ _ | refine blk_drew ?_ | refine blk_alloc ?_ _)); exact BK287.out) hb); have n1_ := Aside0.mk (blk_below (g := gb301) (o := .cells #[.int .i64 t289, .int .i64 t290, .int .i64 t291, .int .i64 t292, .int .i64 t293, .int .i64 t294, .int .i64 t295, .int .i64 t296, .int .i64 t297, .int .i64 t298, .int .i64 t299] 24 (0, 0)) (by (with_reducible repeat (first | refine blk_drewN ?_ _ | refine blk_drew ?_ | refine blk_alloc ?_ _)); exact BK301.out) hb); have n2_ := Aside0.mk (below_step (by repeat (first | (with_reducible first | exact HB.out | apply below_alloc | apply pw_below_drewN | apply below_drew1 | refine below_set ?_ GE287.out | refine below_set ?_ GE301.out) | exact HB.out)) hb); clear BK287; clear BK301; clear HB; have BK287 := n0_; have BK301 := n1_; have HB := n2_; clear n0_ n1_ n2_; (try clear hb); (try clear hb2); (try clear hk); (try clear hi)))
  go_meet
  case rel => exact ⟨_, H', ⟨by first | omega | exact Nat.le_refl _⟩, ⟨by (with_reducible repeat (first | refine blk_drewN ?_ _ | refine blk_drew ?_ | refine blk_alloc ?_ _)); exact BK287.out⟩, ⟨by (with_reducible repeat (first | refine blk_drewN ?_ _ | refine blk_drew ?_ | refine blk_alloc ?_ _)); exact BK301.out⟩, ⟨by repeat (first | (with_reducible first | exact HB.out | apply below_alloc | apply pw_below_drewN | apply below_drew1 | refine below_set ?_ GE287.out | refine below_set ?_ GE301.out) | exact HB.out)⟩⟩
  }
  }
  }
  {
  rw [if_neg c30] at H
  exact absurd ((Option.some.inj H).trans Hr) (by decide)
  }
  }
 case rest =>
  clear HC8
  try clear c1
  try clear c2
  try clear p2
  try clear c3
  try clear c4
  try clear c5
  try clear c8
  try clear c9
  try clear c13
  try clear c14
  try clear c15
  try clear c18
  try clear c19
  try clear c19b0
  try clear c19b1
  try clear c22
  try clear c30
  try clear c30b0
  try clear c30b1
  try clear c31
  try clear c31b0
  try clear c32
  try clear c35
  try clear c36
  try clear c40
  try clear hcz11_0
  try clear hcz11_1
  try clear hcz11_2
  try clear hcz11_3
  try clear hcz11_4
  try clear hcz11_5
  try clear hcz11_6
  try clear hcz15_0
  try clear hcz15_1
  try clear hcz15_10
  try clear hcz15_2
  try clear hcz15_3
  try clear hcz15_4
  try clear hcz15_5
  try clear hcz15_6
  try clear hcz15_7
  try clear hcz15_8
  try clear hcz15_9
  try clear hcz16_0
  try clear hcz16_1
  try clear hcz16_2
  try clear hcz16_3
  try clear hcz16_4
  try clear hcz16_5
  try clear hcz16_6
  try clear hcz33_0
  try clear hcz33_1
  try clear hcz33_10
  try clear hcz33_2
  try clear hcz33_3
  try clear hcz33_4
  try clear hcz33_5
  try clear hcz33_6
  try clear hcz33_7
  try clear hcz33_8
  try clear hcz33_9
  try clear hcz37_0
  try clear hcz37_1
  try clear hcz37_10
  try clear hcz37_2
  try clear hcz37_3
  try clear hcz37_4
  try clear hcz37_5
  try clear hcz37_6
  try clear hcz37_7
  try clear hcz37_8
  try clear hcz37_9
  try clear hcz38_0
  try clear hcz38_1
  try clear hcz38_2
  try clear hcz38_3
  try clear hcz38_4
  try clear hcz38_5
  try clear hcz38_6
  try clear hcz41_0
  try clear hcz41_1
  try clear hcz41_10
  try clear hcz41_2
  try clear hcz41_3
  try clear hcz41_4
  try clear hcz41_5
  try clear hcz41_6
  try clear hcz41_7
  try clear hcz41_8
  try clear hcz41_9
  try clear hcz42_0
  try clear hcz42_1
  try clear hcz42_2
  try clear hcz42_3
  try clear hcz42_4
  try clear hcz42_5
  try clear hcz42_6
  try clear hfz11_0
  try clear hfz11_1
  try clear hfz11_2
  try clear hfz11_3
  try clear hfz11_4
  try clear hfz11_5
  try clear hfz11_6
  try clear hfz15_0
  try clear hfz15_1
  try clear hfz15_10
  try clear hfz15_2
  try clear hfz15_3
  try clear hfz15_4
  try clear hfz15_5
  try clear hfz15_6
  try clear hfz15_7
  try clear hfz15_8
  try clear hfz15_9
  try clear hfz16_0
  try clear hfz16_1
  try clear hfz16_2
  try clear hfz16_3
  try clear hfz16_4
  try clear hfz16_5
  try clear hfz16_6
  try clear hfz33_0
  try clear hfz33_1
  try clear hfz33_10
  try clear hfz33_2
  try clear hfz33_3
  try clear hfz33_4
  try clear hfz33_5
  try clear hfz33_6
  try clear hfz33_7
  try clear hfz33_8
  try clear hfz33_9
  try clear hfz37_0
  try clear hfz37_1
  try clear hfz37_10
  try clear hfz37_2
  try clear hfz37_3
  try clear hfz37_4
  try clear hfz37_5
  try clear hfz37_6
  try clear hfz37_7
  try clear hfz37_8
  try clear hfz37_9
  try clear hfz38_0
  try clear hfz38_1
  try clear hfz38_2
  try clear hfz38_3
  try clear hfz38_4
  try clear hfz38_5
  try clear hfz38_6
  try clear hfz41_0
  try clear hfz41_1
  try clear hfz41_10
  try clear hfz41_2
  try clear hfz41_3
  try clear hfz41_4
  try clear hfz41_5
  try clear hfz41_6
  try clear hfz41_7
  try clear hfz41_8
  try clear hfz41_9
  try clear hfz42_0
  try clear hfz42_1
  try clear hfz42_2
  try clear hfz42_3
  try clear hfz42_4
  try clear hfz42_5
  try clear hfz42_6
  obtain ⟨kq, HA, HJ7, BK287, BK301, HB⟩ := hcut
  cases kq with
  | zero => exact absurd HA.out (by simp [ferrulelaw16_SizeTells.j0])
  | succ kj7 =>
    have H := HA.out
    clear HA
    simp only [ferrulelaw16_SizeTells.j0] at H
    replace H := Option.bind_eq_some_iff.mp H
    obtain ⟨t316, A440, H⟩ := H
    replace H : ((size_Rewrites.f kj7 a0_0 a0_1 a0_2 a0_3 a0_4 a0_5 a0_6 a1).bind fun bt317 => ((size_CallPrograms.f kj7 a0_0 a0_1 a0_2 a0_3 a0_4 a0_5 a0_6 a1 a2).bind fun bt319 => ((size_Good.f kj7 a0_0 a0_1 a0_2 a0_3 a0_4 a0_5 a0_6).bind fun t321 => (if (t321 != t316) = true then (some false) else (if t316 = true then (if a1 < 1 then (ferrulelaw16_SizeTells.j1 kj7 a1 a2 bt317.1 bt317.2 bt319.1 bt319.2 true a0_0 a0_1 a0_2 a0_3 a0_4 a0_5 a0_6) else (ferrulelaw16_SizeTells.j1 kj7 a1 a2 bt317.1 bt317.2 bt319.1 bt319.2 (decide (a1 > a0_2)) a0_0 a0_1 a0_2 a0_3 a0_4 a0_5 a0_6)) else (ferrulelaw16_SizeTells.j1 kj7 a1 a2 bt317.1 bt317.2 bt319.1 bt319.2 true a0_0 a0_1 a0_2 a0_3 a0_4 a0_5 a0_6)))))) = some r := H
    have A44 := Aside0.mk A440
    clear A440
    replace H := Option.bind_eq_some_iff.mp H
    obtain ⟨⟨t317, t318⟩, A450, H⟩ := H
    replace H : ((size_CallPrograms.f kj7 a0_0 a0_1 a0_2 a0_3 a0_4 a0_5 a0_6 a1 a2).bind fun bt319 => ((size_Good.f kj7 a0_0 a0_1 a0_2 a0_3 a0_4 a0_5 a0_6).bind fun t321 => (if (t321 != t316) = true then (some false) else (if t316 = true then (if a1 < 1 then (ferrulelaw16_SizeTells.j1 kj7 a1 a2 t317 t318 bt319.1 bt319.2 true a0_0 a0_1 a0_2 a0_3 a0_4 a0_5 a0_6) else (ferrulelaw16_SizeTells.j1 kj7 a1 a2 t317 t318 bt319.1 bt319.2 (decide (a1 > a0_2)) a0_0 a0_1 a0_2 a0_3 a0_4 a0_5 a0_6)) else (ferrulelaw16_SizeTells.j1 kj7 a1 a2 t317 t318 bt319.1 bt319.2 true a0_0 a0_1 a0_2 a0_3 a0_4 a0_5 a0_6))))) = some r := H
    have A45 := Aside0.mk A450
    clear A450
    replace H := Option.bind_eq_some_iff.mp H
    obtain ⟨⟨t319, t320⟩, A460, H⟩ := H
    replace H : ((size_Good.f kj7 a0_0 a0_1 a0_2 a0_3 a0_4 a0_5 a0_6).bind fun t321 => (if (t321 != t316) = true then (some false) else (if t316 = true then (if a1 < 1 then (ferrulelaw16_SizeTells.j1 kj7 a1 a2 t317 t318 t319 t320 true a0_0 a0_1 a0_2 a0_3 a0_4 a0_5 a0_6) else (ferrulelaw16_SizeTells.j1 kj7 a1 a2 t317 t318 t319 t320 (decide (a1 > a0_2)) a0_0 a0_1 a0_2 a0_3 a0_4 a0_5 a0_6)) else (ferrulelaw16_SizeTells.j1 kj7 a1 a2 t317 t318 t319 t320 true a0_0 a0_1 a0_2 a0_3 a0_4 a0_5 a0_6)))) = some r := H
    have A46 := Aside0.mk A460
    clear A460
    replace H := Option.bind_eq_some_iff.mp H
    obtain ⟨t321, A470, H⟩ := H
    replace H : (if (t321 != t316) = true then (some false) else (if t316 = true then (if a1 < 1 then (ferrulelaw16_SizeTells.j1 kj7 a1 a2 t317 t318 t319 t320 true a0_0 a0_1 a0_2 a0_3 a0_4 a0_5 a0_6) else (ferrulelaw16_SizeTells.j1 kj7 a1 a2 t317 t318 t319 t320 (decide (a1 > a0_2)) a0_0 a0_1 a0_2 a0_3 a0_4 a0_5 a0_6)) else (ferrulelaw16_SizeTells.j1 kj7 a1 a2 t317 t318 t319 t320 true a0_0 a0_1 a0_2 a0_3 a0_4 a0_5 a0_6))) = some r := H
    have A47 := Aside0.mk A470
    clear A470
    by_cases c48 : (t321 != t316) = true
    · rw [if_pos c48] at H
      have c48b0 : (t321 != t316) = true := c48
      (try (have c48b1 : decide (t321 = t316) = false := by simpa using c48))
      (try (have c48b2 : (t321 == t316) = false := by simpa using c48))
      (try (have c48b3 : ¬ (t321 = t316) := by simpa using c48))
      clear c48
      obtain rfl := Option.some.inj H
      have hnb49 := NB287_301.out
      have hnc49 := NB301_287.out
      have hcz50_0 : wc.cell? ⟨gb287, 0, none⟩ = some (.int .i64 a0_0) := (blk_cell BK287.out 0).trans rfl
      have hcz50_1 : wc.cell? ⟨gb287, 1, none⟩ = some (.int .i64 a0_1) := (blk_cell BK287.out 1).trans rfl
      have hcz50_2 : wc.cell? ⟨gb287, 2, none⟩ = some (.int .i64 a0_2) := (blk_cell BK287.out 2).trans rfl
      have hcz50_3 : wc.cell? ⟨gb287, 3, none⟩ = some (.int .i64 a0_3) := (blk_cell BK287.out 3).trans rfl
      have hcz50_4 : wc.cell? ⟨gb287, 4, none⟩ = some (.int .i64 a0_4) := (blk_cell BK287.out 4).trans rfl
      have hcz50_5 : wc.cell? ⟨gb287, 5, none⟩ = some (.int .i64 a0_5) := (blk_cell BK287.out 5).trans rfl
      have hcz50_6 : wc.cell? ⟨gb287, 6, none⟩ = some (.bool a0_6) := (blk_cell BK287.out 6).trans rfl
      have hfz50_0 := blk_frozen BK287.out 0
      have hfz50_1 := blk_frozen BK287.out 1
      have hfz50_2 := blk_frozen BK287.out 2
      have hfz50_3 := blk_frozen BK287.out 3
      have hfz50_4 := blk_frozen BK287.out 4
      have hfz50_5 := blk_frozen BK287.out 5
      have hfz50_6 := blk_frozen BK287.out 6
      go_wp2_with (first | ((with_reducible refine gate_callee (f := 16) rfl ?_); refine goesL_ (some 45) rfl rfl Try.func16 (by kernel_rfl) rfl #[.agg #[.int .i64 a0_0, .int .i64 a0_1, .int .i64 a0_2, .int .i64 a0_3, .int .i64 a0_4, .int .i64 a0_5, .bool a0_6]] rfl (by (try simp only [List.map_toArray, List.map_cons, List.map_nil]); first | done | rfl | (simp only [List.length_drop, List.length_take]; rfl)) ?_; (with_reducible refine (ferruleref16_Good.calls kj7 a0_0 a0_1 a0_2 a0_3 a0_4 a0_5 a0_6 t316 _ A44.out).mono ?_); rintro e w51 ⟨rfl, hb⟩; refine ⟨_, rfl, ?_⟩; have n0_ := Aside0.mk (blk_below (g := gb287) (o := .cells #[.int .i64 a0_0, .int .i64 a0_1, .int .i64 a0_2, .int .i64 a0_3, .int .i64 a0_4, .int .i64 a0_5, .bool a0_6] 29 (0, 0)) (by (with_reducible repeat (first | refine blk_drewN ?_ _ | refine blk_drew ?_ | refine blk_alloc ?_ _)); exact BK287.out) hb); have n1_ := Aside0.mk (blk_below (g := gb301) (o := .cells #[.int .i64 t289, .int .i64 t290, .int .i64 t291, .int .i64 t292, .int .i64 t293, .int .i64 t294, .int .i64 t295, .int .i64 t296, .int .i64 t297, .int .i64 t298, .int .i64 t299] 24 (0, 0)) (by (with_reducible repeat (first | refine blk_drewN ?_ _ | refine blk_drew ?_ | refine blk_alloc ?_ _)); exact BK301.out) hb); have n2_ := Aside0.mk (below_step (by repeat (first | (with_reducible first | exact HB.out | apply below_alloc | apply pw_below_drewN | apply below_drew1 | refine below_set ?_ GE287.out | refine below_set ?_ GE301.out) | exact HB.out)) hb); clear BK287; clear BK301; clear HB; have BK287 := n0_; have BK301 := n1_; have HB := n2_; clear n0_ n1_ n2_; (try clear hb); (try clear hb2); (try clear hk); (try clear hi); have hcz52_0 : w51.cell? ⟨gb287, 0, none⟩ = some (.int .i64 a0_0) := (blk_cell BK287.out 0).trans rfl; have hcz52_1 : w51.cell? ⟨gb287, 1, none⟩ = some (.int .i64 a0_1) := (blk_cell BK287.out 1).trans rfl; have hcz52_2 : w51.cell? ⟨gb287, 2, none⟩ = some (.int .i64 a0_2) := (blk_cell BK287.out 2).trans rfl; have hcz52_3 : w51.cell? ⟨gb287, 3, none⟩ = some (.int .i64 a0_3) := (blk_cell BK287.out 3).trans rfl; have hcz52_4 : w51.cell? ⟨gb287, 4, none⟩ = some (.int .i64 a0_4) := (blk_cell BK287.out 4).trans rfl; have hcz52_5 : w51.cell? ⟨gb287, 5, none⟩ = some (.int .i64 a0_5) := (blk_cell BK287.out 5).trans rfl; have hcz52_6 : w51.cell? ⟨gb287, 6, none⟩ = some (.bool a0_6) := (blk_cell BK287.out 6).trans rfl; have hfz52_0 := blk_frozen BK287.out 0; have hfz52_1 := blk_frozen BK287.out 1; have hfz52_2 := blk_frozen BK287.out 2; have hfz52_3 := blk_frozen BK287.out 3; have hfz52_4 := blk_frozen BK287.out 4; have hfz52_5 := blk_frozen BK287.out 5; have hfz52_6 := blk_frozen BK287.out 6) | ((with_reducible refine gate_callee (f := 17) rfl ?_); refine goesL_ (some 49) rfl rfl Try.func17 (by kernel_rfl) rfl #[.agg #[.int .i64 a0_0, .int .i64 a0_1, .int .i64 a0_2, .int .i64 a0_3, .int .i64 a0_4, .int .i64 a0_5, .bool a0_6], .int .i64 a1] rfl (by (try simp only [List.map_toArray, List.map_cons, List.map_nil]); first | done | rfl | (simp only [List.length_drop, List.length_take]; rfl)) ?_; (with_reducible refine (size_Rewrites.calls kj7 a0_0 a0_1 a0_2 a0_3 a0_4 a0_5 a0_6 a1 t317 t318 _ A45.out).mono ?_); rintro e w53 ⟨rfl, hb⟩; refine ⟨_, rfl, ?_⟩; have n0_ := Aside0.mk (blk_below (g := gb287) (o := .cells #[.int .i64 a0_0, .int .i64 a0_1, .int .i64 a0_2, .int .i64 a0_3, .int .i64 a0_4, .int .i64 a0_5, .bool a0_6] 29 (0, 0)) (by (with_reducible repeat (first | refine blk_drewN ?_ _ | refine blk_drew ?_ | refine blk_alloc ?_ _)); exact BK287.out) hb); have n1_ := Aside0.mk (blk_below (g := gb301) (o := .cells #[.int .i64 t289, .int .i64 t290, .int .i64 t291, .int .i64 t292, .int .i64 t293, .int .i64 t294, .int .i64 t295, .int .i64 t296, .int .i64 t297, .int .i64 t298, .int .i64 t299] 24 (0, 0)) (by (with_reducible repeat (first | refine blk_drewN ?_ _ | refine blk_drew ?_ | refine blk_alloc ?_ _)); exact BK301.out) hb); have n2_ := Aside0.mk (below_step (by repeat (first | (with_reducible first | exact HB.out | apply below_alloc | apply pw_below_drewN | apply below_drew1 | refine below_set ?_ GE287.out | refine below_set ?_ GE301.out) | exact HB.out)) hb); clear BK287; clear BK301; clear HB; have BK287 := n0_; have BK301 := n1_; have HB := n2_; clear n0_ n1_ n2_; (try clear hb); (try clear hb2); (try clear hk); (try clear hi); have hcz54_0 : w53.cell? ⟨gb287, 0, none⟩ = some (.int .i64 a0_0) := (blk_cell BK287.out 0).trans rfl; have hcz54_1 : w53.cell? ⟨gb287, 1, none⟩ = some (.int .i64 a0_1) := (blk_cell BK287.out 1).trans rfl; have hcz54_2 : w53.cell? ⟨gb287, 2, none⟩ = some (.int .i64 a0_2) := (blk_cell BK287.out 2).trans rfl; have hcz54_3 : w53.cell? ⟨gb287, 3, none⟩ = some (.int .i64 a0_3) := (blk_cell BK287.out 3).trans rfl; have hcz54_4 : w53.cell? ⟨gb287, 4, none⟩ = some (.int .i64 a0_4) := (blk_cell BK287.out 4).trans rfl; have hcz54_5 : w53.cell? ⟨gb287, 5, none⟩ = some (.int .i64 a0_5) := (blk_cell BK287.out 5).trans rfl; have hcz54_6 : w53.cell? ⟨gb287, 6, none⟩ = some (.bool a0_6) := (blk_cell BK287.out 6).trans rfl; have hfz54_0 := blk_frozen BK287.out 0; have hfz54_1 := blk_frozen BK287.out 1; have hfz54_2 := blk_frozen BK287.out 2; have hfz54_3 := blk_frozen BK287.out 3; have hfz54_4 := blk_frozen BK287.out 4; have hfz54_5 := blk_frozen BK287.out 5; have hfz54_6 := blk_frozen BK287.out 6) | ((with_reducible refine gate_callee (f := 11) rfl ?_); refine goesL_ (some 56) rfl rfl Try.func11 (by kernel_rfl) rfl #[.agg #[.int .i64 a0_0, .int .i64 a0_1, .int .i64 a0_2, .int .i64 a0_3, .int .i64 a0_4, .int .i64 a0_5, .bool a0_6], .int .i64 a1, .int .i64 a2] rfl (by (try simp only [List.map_toArray, List.map_cons, List.map_nil]); first | done | rfl | (simp only [List.length_drop, List.length_take]; rfl)) ?_; (with_reducible refine (size_CallPrograms.calls kj7 a0_0 a0_1 a0_2 a0_3 a0_4 a0_5 a0_6 a1 a2 t319 t320 _ A46.out).mono ?_); rintro e w55 ⟨rfl, hb⟩; refine ⟨_, rfl, ?_⟩; have n0_ := Aside0.mk (blk_below (g := gb287) (o := .cells #[.int .i64 a0_0, .int .i64 a0_1, .int .i64 a0_2, .int .i64 a0_3, .int .i64 a0_4, .int .i64 a0_5, .bool a0_6] 29 (0, 0)) (by (with_reducible repeat (first | refine blk_drewN ?_ _ | refine blk_drew ?_ | refine blk_alloc ?_ _)); exact BK287.out) hb); have n1_ := Aside0.mk (blk_below (g := gb301) (o := .cells #[.int .i64 t289, .int .i64 t290, .int .i64 t291, .int .i64 t292, .int .i64 t293, .int .i64 t294, .int .i64 t295, .int .i64 t296, .int .i64 t297, .int .i64 t298, .int .i64 t299] 24 (0, 0)) (by (with_reducible repeat (first | refine blk_drewN ?_ _ | refine blk_drew ?_ | refine blk_alloc ?_ _)); exact BK301.out) hb); have n2_ := Aside0.mk (below_step (by repeat (first | (with_reducible first | exact HB.out | apply below_alloc | apply pw_below_drewN | apply below_drew1 | refine below_set ?_ GE287.out | refine below_set ?_ GE301.out) | exact HB.out)) hb); clear BK287; clear BK301; clear HB; have BK287 := n0_; have BK301 := n1_; have HB := n2_; clear n0_ n1_ n2_; (try clear hb); (try clear hb2); (try clear hk); (try clear hi); have hcz56_0 : w55.cell? ⟨gb287, 0, none⟩ = some (.int .i64 a0_0) := (blk_cell BK287.out 0).trans rfl; have hcz56_1 : w55.cell? ⟨gb287, 1, none⟩ = some (.int .i64 a0_1) := (blk_cell BK287.out 1).trans rfl; have hcz56_2 : w55.cell? ⟨gb287, 2, none⟩ = some (.int .i64 a0_2) := (blk_cell BK287.out 2).trans rfl; have hcz56_3 : w55.cell? ⟨gb287, 3, none⟩ = some (.int .i64 a0_3) := (blk_cell BK287.out 3).trans rfl; have hcz56_4 : w55.cell? ⟨gb287, 4, none⟩ = some (.int .i64 a0_4) := (blk_cell BK287.out 4).trans rfl; have hcz56_5 : w55.cell? ⟨gb287, 5, none⟩ = some (.int .i64 a0_5) := (blk_cell BK287.out 5).trans rfl; have hcz56_6 : w55.cell? ⟨gb287, 6, none⟩ = some (.bool a0_6) := (blk_cell BK287.out 6).trans rfl; have hfz56_0 := blk_frozen BK287.out 0; have hfz56_1 := blk_frozen BK287.out 1; have hfz56_2 := blk_frozen BK287.out 2; have hfz56_3 := blk_frozen BK287.out 3; have hfz56_4 := blk_frozen BK287.out 4; have hfz56_5 := blk_frozen BK287.out 5; have hfz56_6 := blk_frozen BK287.out 6) | ((with_reducible refine gate_callee (f := 12) rfl ?_); refine goesL_ (some 60) rfl rfl Try.func12 (by kernel_rfl) rfl #[.agg #[.int .i64 a0_0, .int .i64 a0_1, .int .i64 a0_2, .int .i64 a0_3, .int .i64 a0_4, .int .i64 a0_5, .bool a0_6]] rfl (by (try simp only [List.map_toArray, List.map_cons, List.map_nil]); first | done | rfl | (simp only [List.length_drop, List.length_take]; rfl)) ?_; (with_reducible refine (size_Good.calls kj7 a0_0 a0_1 a0_2 a0_3 a0_4 a0_5 a0_6 t321 _ A47.out).mono ?_); rintro e w57 ⟨rfl, hb⟩; refine ⟨_, rfl, ?_⟩; have n0_ := Aside0.mk (blk_below (g := gb287) (o := .cells #[.int .i64 a0_0, .int .i64 a0_1, .int .i64 a0_2, .int .i64 a0_3, .int .i64 a0_4, .int .i64 a0_5, .bool a0_6] 29 (0, 0)) (by (with_reducible repeat (first | refine blk_drewN ?_ _ | refine blk_drew ?_ | refine blk_alloc ?_ _)); exact BK287.out) hb); have n1_ := Aside0.mk (blk_below (g := gb301) (o := .cells #[.int .i64 t289, .int .i64 t290, .int .i64 t291, .int .i64 t292, .int .i64 t293, .int .i64 t294, .int .i64 t295, .int .i64 t296, .int .i64 t297, .int .i64 t298, .int .i64 t299] 24 (0, 0)) (by (with_reducible repeat (first | refine blk_drewN ?_ _ | refine blk_drew ?_ | refine blk_alloc ?_ _)); exact BK301.out) hb); have n2_ := Aside0.mk (below_step (by repeat (first | (with_reducible first | exact HB.out | apply below_alloc | apply pw_below_drewN | apply below_drew1 | refine below_set ?_ GE287.out | refine below_set ?_ GE301.out) | exact HB.out)) hb); clear BK287; clear BK301; clear HB; have BK287 := n0_; have BK301 := n1_; have HB := n2_; clear n0_ n1_ n2_; (try clear hb); (try clear hb2); (try clear hk); (try clear hi)))
      go_ret
      exact ⟨by first | rfl | (simp [errW_none, errW_some] <;> rfl) | (simp [*, errW_none, errW_some] <;> rfl), by repeat (first | (with_reducible first | exact HB.out | apply below_alloc | apply pw_below_drewN | apply below_drew1 | refine below_set ?_ GE287.out | refine below_set ?_ GE301.out) | exact HB.out)⟩
    · rw [if_neg c48] at H
      have c48b0 : (t321 != t316) = false := by simpa using c48
      (try (have c48b1 : decide (t321 = t316) = true := by simpa using c48))
      (try (have c48b2 : (t321 == t316) = true := by simpa using c48))
      clear c48
      have HC58 := Aside0.mk H
      clear H
      have hnb59 := NB287_301.out
      have hnc59 := NB301_287.out
      have hcz60_0 : wc.cell? ⟨gb287, 0, none⟩ = some (.int .i64 a0_0) := (blk_cell BK287.out 0).trans rfl
      have hcz60_1 : wc.cell? ⟨gb287, 1, none⟩ = some (.int .i64 a0_1) := (blk_cell BK287.out 1).trans rfl
      have hcz60_2 : wc.cell? ⟨gb287, 2, none⟩ = some (.int .i64 a0_2) := (blk_cell BK287.out 2).trans rfl
      have hcz60_3 : wc.cell? ⟨gb287, 3, none⟩ = some (.int .i64 a0_3) := (blk_cell BK287.out 3).trans rfl
      have hcz60_4 : wc.cell? ⟨gb287, 4, none⟩ = some (.int .i64 a0_4) := (blk_cell BK287.out 4).trans rfl
      have hcz60_5 : wc.cell? ⟨gb287, 5, none⟩ = some (.int .i64 a0_5) := (blk_cell BK287.out 5).trans rfl
      have hcz60_6 : wc.cell? ⟨gb287, 6, none⟩ = some (.bool a0_6) := (blk_cell BK287.out 6).trans rfl
      have hfz60_0 := blk_frozen BK287.out 0
      have hfz60_1 := blk_frozen BK287.out 1
      have hfz60_2 := blk_frozen BK287.out 2
      have hfz60_3 := blk_frozen BK287.out 3
      have hfz60_4 := blk_frozen BK287.out 4
      have hfz60_5 := blk_frozen BK287.out 5
      have hfz60_6 := blk_frozen BK287.out 6
      go_upto_region 14 with (first | ((with_reducible refine gate_callee (f := 16) rfl ?_); refine goesL_ (some 45) rfl rfl Try.func16 (by kernel_rfl) rfl #[.agg #[.int .i64 a0_0, .int .i64 a0_1, .int .i64 a0_2, .int .i64 a0_3, .int .i64 a0_4, .int .i64 a0_5, .bool a0_6]] rfl (by (try simp only [List.map_toArray, List.map_cons, List.map_nil]); first | done | rfl | (simp only [List.length_drop, List.length_take]; rfl)) ?_; (with_reducible refine (ferruleref16_Good.calls kj7 a0_0 a0_1 a0_2 a0_3 a0_4 a0_5 a0_6 t316 _ A44.out).mono ?_); rintro e w61 ⟨rfl, hb⟩; refine ⟨_, rfl, ?_⟩; have n0_ := Aside0.mk (blk_below (g := gb287) (o := .cells #[.int .i64 a0_0, .int .i64 a0_1, .int .i64 a0_2, .int .i64 a0_3, .int .i64 a0_4, .int .i64 a0_5, .bool a0_6] 29 (0, 0)) (by (with_reducible repeat (first | refine blk_drewN ?_ _ | refine blk_drew ?_ | refine blk_alloc ?_ _)); exact BK287.out) hb); have n1_ := Aside0.mk (blk_below (g := gb301) (o := .cells #[.int .i64 t289, .int .i64 t290, .int .i64 t291, .int .i64 t292, .int .i64 t293, .int .i64 t294, .int .i64 t295, .int .i64 t296, .int .i64 t297, .int .i64 t298, .int .i64 t299] 24 (0, 0)) (by (with_reducible repeat (first | refine blk_drewN ?_ _ | refine blk_drew ?_ | refine blk_alloc ?_ _)); exact BK301.out) hb); have n2_ := Aside0.mk (below_step (by repeat (first | (with_reducible first | exact HB.out | apply below_alloc | apply pw_below_drewN | apply below_drew1 | refine below_set ?_ GE287.out | refine below_set ?_ GE301.out) | exact HB.out)) hb); clear BK287; clear BK301; clear HB; have BK287 := n0_; have BK301 := n1_; have HB := n2_; clear n0_ n1_ n2_; (try clear hb); (try clear hb2); (try clear hk); (try clear hi); have hcz62_0 : w61.cell? ⟨gb287, 0, none⟩ = some (.int .i64 a0_0) := (blk_cell BK287.out 0).trans rfl; have hcz62_1 : w61.cell? ⟨gb287, 1, none⟩ = some (.int .i64 a0_1) := (blk_cell BK287.out 1).trans rfl; have hcz62_2 : w61.cell? ⟨gb287, 2, none⟩ = some (.int .i64 a0_2) := (blk_cell BK287.out 2).trans rfl; have hcz62_3 : w61.cell? ⟨gb287, 3, none⟩ = some (.int .i64 a0_3) := (blk_cell BK287.out 3).trans rfl; have hcz62_4 : w61.cell? ⟨gb287, 4, none⟩ = some (.int .i64 a0_4) := (blk_cell BK287.out 4).trans rfl; have hcz62_5 : w61.cell? ⟨gb287, 5, none⟩ = some (.int .i64 a0_5) := (blk_cell BK287.out 5).trans rfl; have hcz62_6 : w61.cell? ⟨gb287, 6, none⟩ = some (.bool a0_6) := (blk_cell BK287.out 6).trans rfl; have hfz62_0 := blk_frozen BK287.out 0; have hfz62_1 := blk_frozen BK287.out 1; have hfz62_2 := blk_frozen BK287.out 2; have hfz62_3 := blk_frozen BK287.out 3; have hfz62_4 := blk_frozen BK287.out 4; have hfz62_5 := blk_frozen BK287.out 5; have hfz62_6 := blk_frozen BK287.out 6) | ((with_reducible refine gate_callee (f := 17) rfl ?_); refine goesL_ (some 49) rfl rfl Try.func17 (by kernel_rfl) rfl #[.agg #[.int .i64 a0_0, .int .i64 a0_1, .int .i64 a0_2, .int .i64 a0_3, .int .i64 a0_4, .int .i64 a0_5, .bool a0_6], .int .i64 a1] rfl (by (try simp only [List.map_toArray, List.map_cons, List.map_nil]); first | done | rfl | (simp only [List.length_drop, List.length_take]; rfl)) ?_; (with_reducible refine (size_Rewrites.calls kj7 a0_0 a0_1 a0_2 a0_3 a0_4 a0_5 a0_6 a1 t317 t318 _ A45.out).mono ?_); rintro e w63 ⟨rfl, hb⟩; refine ⟨_, rfl, ?_⟩; have n0_ := Aside0.mk (blk_below (g := gb287) (o := .cells #[.int .i64 a0_0, .int .i64 a0_1, .int .i64 a0_2, .int .i64 a0_3, .int .i64 a0_4, .int .i64 a0_5, .bool a0_6] 29 (0, 0)) (by (with_reducible repeat (first | refine blk_drewN ?_ _ | refine blk_drew ?_ | refine blk_alloc ?_ _)); exact BK287.out) hb); have n1_ := Aside0.mk (blk_below (g := gb301) (o := .cells #[.int .i64 t289, .int .i64 t290, .int .i64 t291, .int .i64 t292, .int .i64 t293, .int .i64 t294, .int .i64 t295, .int .i64 t296, .int .i64 t297, .int .i64 t298, .int .i64 t299] 24 (0, 0)) (by (with_reducible repeat (first | refine blk_drewN ?_ _ | refine blk_drew ?_ | refine blk_alloc ?_ _)); exact BK301.out) hb); have n2_ := Aside0.mk (below_step (by repeat (first | (with_reducible first | exact HB.out | apply below_alloc | apply pw_below_drewN | apply below_drew1 | refine below_set ?_ GE287.out | refine below_set ?_ GE301.out) | exact HB.out)) hb); clear BK287; clear BK301; clear HB; have BK287 := n0_; have BK301 := n1_; have HB := n2_; clear n0_ n1_ n2_; (try clear hb); (try clear hb2); (try clear hk); (try clear hi); have hcz64_0 : w63.cell? ⟨gb287, 0, none⟩ = some (.int .i64 a0_0) := (blk_cell BK287.out 0).trans rfl; have hcz64_1 : w63.cell? ⟨gb287, 1, none⟩ = some (.int .i64 a0_1) := (blk_cell BK287.out 1).trans rfl; have hcz64_2 : w63.cell? ⟨gb287, 2, none⟩ = some (.int .i64 a0_2) := (blk_cell BK287.out 2).trans rfl; have hcz64_3 : w63.cell? ⟨gb287, 3, none⟩ = some (.int .i64 a0_3) := (blk_cell BK287.out 3).trans rfl; have hcz64_4 : w63.cell? ⟨gb287, 4, none⟩ = some (.int .i64 a0_4) := (blk_cell BK287.out 4).trans rfl; have hcz64_5 : w63.cell? ⟨gb287, 5, none⟩ = some (.int .i64 a0_5) := (blk_cell BK287.out 5).trans rfl; have hcz64_6 : w63.cell? ⟨gb287, 6, none⟩ = some (.bool a0_6) := (blk_cell BK287.out 6).trans rfl; have hfz64_0 := blk_frozen BK287.out 0; have hfz64_1 := blk_frozen BK287.out 1; have hfz64_2 := blk_frozen BK287.out 2; have hfz64_3 := blk_frozen BK287.out 3; have hfz64_4 := blk_frozen BK287.out 4; have hfz64_5 := blk_frozen BK287.out 5; have hfz64_6 := blk_frozen BK287.out 6) | ((with_reducible refine gate_callee (f := 11) rfl ?_); refine goesL_ (some 56) rfl rfl Try.func11 (by kernel_rfl) rfl #[.agg #[.int .i64 a0_0, .int .i64 a0_1, .int .i64 a0_2, .int .i64 a0_3, .int .i64 a0_4, .int .i64 a0_5, .bool a0_6], .int .i64 a1, .int .i64 a2] rfl (by (try simp only [List.map_toArray, List.map_cons, List.map_nil]); first | done | rfl | (simp only [List.length_drop, List.length_take]; rfl)) ?_; (with_reducible refine (size_CallPrograms.calls kj7 a0_0 a0_1 a0_2 a0_3 a0_4 a0_5 a0_6 a1 a2 t319 t320 _ A46.out).mono ?_); rintro e w65 ⟨rfl, hb⟩; refine ⟨_, rfl, ?_⟩; have n0_ := Aside0.mk (blk_below (g := gb287) (o := .cells #[.int .i64 a0_0, .int .i64 a0_1, .int .i64 a0_2, .int .i64 a0_3, .int .i64 a0_4, .int .i64 a0_5, .bool a0_6] 29 (0, 0)) (by (with_reducible repeat (first | refine blk_drewN ?_ _ | refine blk_drew ?_ | refine blk_alloc ?_ _)); exact BK287.out) hb); have n1_ := Aside0.mk (blk_below (g := gb301) (o := .cells #[.int .i64 t289, .int .i64 t290, .int .i64 t291, .int .i64 t292, .int .i64 t293, .int .i64 t294, .int .i64 t295, .int .i64 t296, .int .i64 t297, .int .i64 t298, .int .i64 t299] 24 (0, 0)) (by (with_reducible repeat (first | refine blk_drewN ?_ _ | refine blk_drew ?_ | refine blk_alloc ?_ _)); exact BK301.out) hb); have n2_ := Aside0.mk (below_step (by repeat (first | (with_reducible first | exact HB.out | apply below_alloc | apply pw_below_drewN | apply below_drew1 | refine below_set ?_ GE287.out | refine below_set ?_ GE301.out) | exact HB.out)) hb); clear BK287; clear BK301; clear HB; have BK287 := n0_; have BK301 := n1_; have HB := n2_; clear n0_ n1_ n2_; (try clear hb); (try clear hb2); (try clear hk); (try clear hi); have hcz66_0 : w65.cell? ⟨gb287, 0, none⟩ = some (.int .i64 a0_0) := (blk_cell BK287.out 0).trans rfl; have hcz66_1 : w65.cell? ⟨gb287, 1, none⟩ = some (.int .i64 a0_1) := (blk_cell BK287.out 1).trans rfl; have hcz66_2 : w65.cell? ⟨gb287, 2, none⟩ = some (.int .i64 a0_2) := (blk_cell BK287.out 2).trans rfl; have hcz66_3 : w65.cell? ⟨gb287, 3, none⟩ = some (.int .i64 a0_3) := (blk_cell BK287.out 3).trans rfl; have hcz66_4 : w65.cell? ⟨gb287, 4, none⟩ = some (.int .i64 a0_4) := (blk_cell BK287.out 4).trans rfl; have hcz66_5 : w65.cell? ⟨gb287, 5, none⟩ = some (.int .i64 a0_5) := (blk_cell BK287.out 5).trans rfl; have hcz66_6 : w65.cell? ⟨gb287, 6, none⟩ = some (.bool a0_6) := (blk_cell BK287.out 6).trans rfl; have hfz66_0 := blk_frozen BK287.out 0; have hfz66_1 := blk_frozen BK287.out 1; have hfz66_2 := blk_frozen BK287.out 2; have hfz66_3 := blk_frozen BK287.out 3; have hfz66_4 := blk_frozen BK287.out 4; have hfz66_5 := blk_frozen BK287.out 5; have hfz66_6 := blk_frozen BK287.out 6) | ((with_reducible refine gate_callee (f := 12) rfl ?_); refine goesL_ (some 60) rfl rfl Try.func12 (by kernel_rfl) rfl #[.agg #[.int .i64 a0_0, .int .i64 a0_1, .int .i64 a0_2, .int .i64 a0_3, .int .i64 a0_4, .int .i64 a0_5, .bool a0_6]] rfl (by (try simp only [List.map_toArray, List.map_cons, List.map_nil]); first | done | rfl | (simp only [List.length_drop, List.length_take]; rfl)) ?_; (with_reducible refine (size_Good.calls kj7 a0_0 a0_1 a0_2 a0_3 a0_4 a0_5 a0_6 t321 _ A47.out).mono ?_); rintro e w67 ⟨rfl, hb⟩; refine ⟨_, rfl, ?_⟩; have n0_ := Aside0.mk (blk_below (g := gb287) (o := .cells #[.int .i64 a0_0, .int .i64 a0_1, .int .i64 a0_2, .int .i64 a0_3, .int .i64 a0_4, .int .i64 a0_5, .bool a0_6] 29 (0, 0)) (by (with_reducible repeat (first | refine blk_drewN ?_ _ | refine blk_drew ?_ | refine blk_alloc ?_ _)); exact BK287.out) hb); have n1_ := Aside0.mk (blk_below (g := gb301) (o := .cells #[.int .i64 t289, .int .i64 t290, .int .i64 t291, .int .i64 t292, .int .i64 t293, .int .i64 t294, .int .i64 t295, .int .i64 t296, .int .i64 t297, .int .i64 t298, .int .i64 t299] 24 (0, 0)) (by (with_reducible repeat (first | refine blk_drewN ?_ _ | refine blk_drew ?_ | refine blk_alloc ?_ _)); exact BK301.out) hb); have n2_ := Aside0.mk (below_step (by repeat (first | (with_reducible first | exact HB.out | apply below_alloc | apply pw_below_drewN | apply below_drew1 | refine below_set ?_ GE287.out | refine below_set ?_ GE301.out) | exact HB.out)) hb); clear BK287; clear BK301; clear HB; have BK287 := n0_; have BK301 := n1_; have HB := n2_; clear n0_ n1_ n2_; (try clear hb); (try clear hb2); (try clear hk); (try clear hi)))
      (try simp only [Act.put, List.setIfInBounds_toArray, List.set_cons_zero, List.set_cons_succ])
      go_cut [74] (fun v74 wc => ∃ (kq : Nat) (x74_57 : Bool), v74 = .bool x74_57 ∧ Aside0 (ferrulelaw16_SizeTells.j1 kq a1 a2 t317 t318 t319 t320 x74_57 a0_0 a0_1 a0_2 a0_3 a0_4 a0_5 a0_6 = some r) ∧ Aside0 (kq ≤ kj7) ∧ Aside0 (wc.heap[gb287]? = some (.cells #[.int .i64 a0_0, .int .i64 a0_1, .int .i64 a0_2, .int .i64 a0_3, .int .i64 a0_4, .int .i64 a0_5, .bool a0_6] 29 (0, 0))) ∧ Aside0 (wc.heap[gb301]? = some (.cells #[.int .i64 t289, .int .i64 t290, .int .i64 t291, .int .i64 t292, .int .i64 t293, .int .i64 t294, .int .i64 t295, .int .i64 t296, .int .i64 t297, .int .i64 t298, .int .i64 t299] 24 (0, 0))) ∧ Aside0 (Below w.heap.size w wc))
      case first =>
        have H := HC58.out
        clear HC58
        by_cases c68 : t316 = true
        · subst c68
          have H1 : (if a1 < 1 then (ferrulelaw16_SizeTells.j1 kj7 a1 a2 t317 t318 t319 t320 true a0_0 a0_1 a0_2 a0_3 a0_4 a0_5 a0_6) else (ferrulelaw16_SizeTells.j1 kj7 a1 a2 t317 t318 t319 t320 (decide (a1 > a0_2)) a0_0 a0_1 a0_2 a0_3 a0_4 a0_5 a0_6)) = some r := by rw [if_pos rfl] at H; exact H
          clear H
          have H := H1
          clear H1
          by_cases c69 : a1 < 1
          · rw [if_pos c69] at H
            have c69b0 : decide (a1 < 1) = true := decide_eq_true c69
            clear c69
            (first | rw [c69b0] | (simp only [i64_w, i32_w]; rw [c69b0]) | skip)
            have H' := Aside0.mk H
            clear H
            go_wp2
            go_meet
            case rel => exact ⟨_, (true), (by first | rfl | (simp; done) | (simp [*]; done)), H', ⟨by have := HJ7.out; first | omega | exact Nat.le_refl _⟩, ⟨by (with_reducible repeat (first | refine blk_drewN ?_ _ | refine blk_drew ?_ | refine blk_alloc ?_ _)); exact BK287.out⟩, ⟨by (with_reducible repeat (first | refine blk_drewN ?_ _ | refine blk_drew ?_ | refine blk_alloc ?_ _)); exact BK301.out⟩, ⟨by repeat (first | (with_reducible first | exact HB.out | apply below_alloc | apply pw_below_drewN | apply below_drew1 | refine below_set ?_ GE287.out | refine below_set ?_ GE301.out) | exact HB.out)⟩⟩
          · rw [if_neg c69] at H
            have c69b0 : decide (a1 < 1) = false := decide_eq_false c69
            clear c69
            (first | rw [c69b0] | (simp only [i64_w, i32_w]; rw [c69b0]) | skip)
            have H' := Aside0.mk H
            clear H
            have hnb70 := NB287_301.out
            have hnc70 := NB301_287.out
            have hcz71_0 : w67.cell? ⟨gb287, 0, none⟩ = some (.int .i64 a0_0) := (blk_cell BK287.out 0).trans rfl
            have hcz71_1 : w67.cell? ⟨gb287, 1, none⟩ = some (.int .i64 a0_1) := (blk_cell BK287.out 1).trans rfl
            have hcz71_2 : w67.cell? ⟨gb287, 2, none⟩ = some (.int .i64 a0_2) := (blk_cell BK287.out 2).trans rfl
            have hcz71_3 : w67.cell? ⟨gb287, 3, none⟩ = some (.int .i64 a0_3) := (blk_cell BK287.out 3).trans rfl
            have hcz71_4 : w67.cell? ⟨gb287, 4, none⟩ = some (.int .i64 a0_4) := (blk_cell BK287.out 4).trans rfl
            have hcz71_5 : w67.cell? ⟨gb287, 5, none⟩ = some (.int .i64 a0_5) := (blk_cell BK287.out 5).trans rfl
            have hcz71_6 : w67.cell? ⟨gb287, 6, none⟩ = some (.bool a0_6) := (blk_cell BK287.out 6).trans rfl
            have hfz71_0 := blk_frozen BK287.out 0
            have hfz71_1 := blk_frozen BK287.out 1
            have hfz71_2 := blk_frozen BK287.out 2
            have hfz71_3 := blk_frozen BK287.out 3
            have hfz71_4 := blk_frozen BK287.out 4
            have hfz71_5 := blk_frozen BK287.out 5
            have hfz71_6 := blk_frozen BK287.out 6
            go_wp2
            go_meet
            case rel => exact ⟨_, (decide (a1 > a0_2)), (by first | rfl | (simp; done) | (simp [*]; done)), H', ⟨by have := HJ7.out; first | omega | exact Nat.le_refl _⟩, ⟨by (with_reducible repeat (first | refine blk_drewN ?_ _ | refine blk_drew ?_ | refine blk_alloc ?_ _)); exact BK287.out⟩, ⟨by (with_reducible repeat (first | refine blk_drewN ?_ _ | refine blk_drew ?_ | refine blk_alloc ?_ _)); exact BK301.out⟩, ⟨by repeat (first | (with_reducible first | exact HB.out | apply below_alloc | apply pw_below_drewN | apply below_drew1 | refine below_set ?_ GE287.out | refine below_set ?_ GE301.out) | exact HB.out)⟩⟩
        · replace c68 := Bool.eq_false_iff.mpr c68
          subst c68
          have H1 : (ferrulelaw16_SizeTells.j1 kj7 a1 a2 t317 t318 t319 t320 true a0_0 a0_1 a0_2 a0_3 a0_4 a0_5 a0_6) = some r := by rw [if_neg (show ¬ (false = true) by decide)] at H; exact H
          clear H
          have H := H1
          clear H1
          have H' := Aside0.mk H
          clear H
          go_wp2
          go_meet
          case rel => exact ⟨_, (true), (by first | rfl | (simp; done) | (simp [*]; done)), H', ⟨by have := HJ7.out; first | omega | exact Nat.le_refl _⟩, ⟨by (with_reducible repeat (first | refine blk_drewN ?_ _ | refine blk_drew ?_ | refine blk_alloc ?_ _)); exact BK287.out⟩, ⟨by (with_reducible repeat (first | refine blk_drewN ?_ _ | refine blk_drew ?_ | refine blk_alloc ?_ _)); exact BK301.out⟩, ⟨by repeat (first | (with_reducible first | exact HB.out | apply below_alloc | apply pw_below_drewN | apply below_drew1 | refine below_set ?_ GE287.out | refine below_set ?_ GE301.out) | exact HB.out)⟩⟩
      case rest =>
        clear HC58
        try clear c1
        try clear c2
        try clear p2
        try clear c3
        try clear c4
        try clear c5
        try clear c6
        try clear c7
        try clear c8
        try clear c9
        try clear c11
        try clear c12
        try clear c13
        try clear c14
        try clear c15
        try clear c16
        try clear c17
        try clear c18
        try clear c19
        try clear c19b0
        try clear c19b1
        try clear c22
        try clear c30
        try clear c30b0
        try clear c30b1
        try clear c31
        try clear c31b0
        try clear c32
        try clear c35
        try clear c36
        try clear c40
        try clear c48
        try clear c48b0
        try clear c48b1
        try clear c48b2
        try clear c49
        try clear c59
        try clear c68
        try clear c69
        try clear c69b0
        try clear c70
        try clear hcz11_0
        try clear hcz11_1
        try clear hcz11_2
        try clear hcz11_3
        try clear hcz11_4
        try clear hcz11_5
        try clear hcz11_6
        try clear hcz15_0
        try clear hcz15_1
        try clear hcz15_10
        try clear hcz15_2
        try clear hcz15_3
        try clear hcz15_4
        try clear hcz15_5
        try clear hcz15_6
        try clear hcz15_7
        try clear hcz15_8
        try clear hcz15_9
        try clear hcz16_0
        try clear hcz16_1
        try clear hcz16_2
        try clear hcz16_3
        try clear hcz16_4
        try clear hcz16_5
        try clear hcz16_6
        try clear hcz33_0
        try clear hcz33_1
        try clear hcz33_10
        try clear hcz33_2
        try clear hcz33_3
        try clear hcz33_4
        try clear hcz33_5
        try clear hcz33_6
        try clear hcz33_7
        try clear hcz33_8
        try clear hcz33_9
        try clear hcz37_0
        try clear hcz37_1
        try clear hcz37_10
        try clear hcz37_2
        try clear hcz37_3
        try clear hcz37_4
        try clear hcz37_5
        try clear hcz37_6
        try clear hcz37_7
        try clear hcz37_8
        try clear hcz37_9
        try clear hcz38_0
        try clear hcz38_1
        try clear hcz38_2
        try clear hcz38_3
        try clear hcz38_4
        try clear hcz38_5
        try clear hcz38_6
        try clear hcz41_0
        try clear hcz41_1
        try clear hcz41_10
        try clear hcz41_2
        try clear hcz41_3
        try clear hcz41_4
        try clear hcz41_5
        try clear hcz41_6
        try clear hcz41_7
        try clear hcz41_8
        try clear hcz41_9
        try clear hcz42_0
        try clear hcz42_1
        try clear hcz42_2
        try clear hcz42_3
        try clear hcz42_4
        try clear hcz42_5
        try clear hcz42_6
        try clear hcz50_0
        try clear hcz50_1
        try clear hcz50_2
        try clear hcz50_3
        try clear hcz50_4
        try clear hcz50_5
        try clear hcz50_6
        try clear hcz52_0
        try clear hcz52_1
        try clear hcz52_2
        try clear hcz52_3
        try clear hcz52_4
        try clear hcz52_5
        try clear hcz52_6
        try clear hcz54_0
        try clear hcz54_1
        try clear hcz54_2
        try clear hcz54_3
        try clear hcz54_4
        try clear hcz54_5
        try clear hcz54_6
        try clear hcz56_0
        try clear hcz56_1
        try clear hcz56_2
        try clear hcz56_3
        try clear hcz56_4
        try clear hcz56_5
        try clear hcz56_6
        try clear hcz60_0
        try clear hcz60_1
        try clear hcz60_2
        try clear hcz60_3
        try clear hcz60_4
        try clear hcz60_5
        try clear hcz60_6
        try clear hcz62_0
        try clear hcz62_1
        try clear hcz62_2
        try clear hcz62_3
        try clear hcz62_4
        try clear hcz62_5
        try clear hcz62_6
        try clear hcz64_0
        try clear hcz64_1
        try clear hcz64_2
        try clear hcz64_3
        try clear hcz64_4
        try clear hcz64_5
        try clear hcz64_6
        try clear hcz66_0
        try clear hcz66_1
        try clear hcz66_2
        try clear hcz66_3
        try clear hcz66_4
        try clear hcz66_5
        try clear hcz66_6
        try clear hcz71_0
        try clear hcz71_1
        try clear hcz71_2
        try clear hcz71_3
        try clear hcz71_4
        try clear hcz71_5
        try clear hcz71_6
        try clear hfz11_0
        try clear hfz11_1
        try clear hfz11_2
        try clear hfz11_3
        try clear hfz11_4
        try clear hfz11_5
        try clear hfz11_6
        try clear hfz15_0
        try clear hfz15_1
        try clear hfz15_10
        try clear hfz15_2
        try clear hfz15_3
        try clear hfz15_4
        try clear hfz15_5
        try clear hfz15_6
        try clear hfz15_7
        try clear hfz15_8
        try clear hfz15_9
        try clear hfz16_0
        try clear hfz16_1
        try clear hfz16_2
        try clear hfz16_3
        try clear hfz16_4
        try clear hfz16_5
        try clear hfz16_6
        try clear hfz33_0
        try clear hfz33_1
        try clear hfz33_10
        try clear hfz33_2
        try clear hfz33_3
        try clear hfz33_4
        try clear hfz33_5
        try clear hfz33_6
        try clear hfz33_7
        try clear hfz33_8
        try clear hfz33_9
        try clear hfz37_0
        try clear hfz37_1
        try clear hfz37_10
        try clear hfz37_2
        try clear hfz37_3
        try clear hfz37_4
        try clear hfz37_5
        try clear hfz37_6
        try clear hfz37_7
        try clear hfz37_8
        try clear hfz37_9
        try clear hfz38_0
        try clear hfz38_1
        try clear hfz38_2
        try clear hfz38_3
        try clear hfz38_4
        try clear hfz38_5
        try clear hfz38_6
        try clear hfz41_0
        try clear hfz41_1
        try clear hfz41_10
        try clear hfz41_2
        try clear hfz41_3
        try clear hfz41_4
        try clear hfz41_5
        try clear hfz41_6
        try clear hfz41_7
        try clear hfz41_8
        try clear hfz41_9
        try clear hfz42_0
        try clear hfz42_1
        try clear hfz42_2
        try clear hfz42_3
        try clear hfz42_4
        try clear hfz42_5
        try clear hfz42_6
        try clear hfz50_0
        try clear hfz50_1
        try clear hfz50_2
        try clear hfz50_3
        try clear hfz50_4
        try clear hfz50_5
        try clear hfz50_6
        try clear hfz52_0
        try clear hfz52_1
        try clear hfz52_2
        try clear hfz52_3
        try clear hfz52_4
        try clear hfz52_5
        try clear hfz52_6
        try clear hfz54_0
        try clear hfz54_1
        try clear hfz54_2
        try clear hfz54_3
        try clear hfz54_4
        try clear hfz54_5
        try clear hfz54_6
        try clear hfz56_0
        try clear hfz56_1
        try clear hfz56_2
        try clear hfz56_3
        try clear hfz56_4
        try clear hfz56_5
        try clear hfz56_6
        try clear hfz60_0
        try clear hfz60_1
        try clear hfz60_2
        try clear hfz60_3
        try clear hfz60_4
        try clear hfz60_5
        try clear hfz60_6
        try clear hfz62_0
        try clear hfz62_1
        try clear hfz62_2
        try clear hfz62_3
        try clear hfz62_4
        try clear hfz62_5
        try clear hfz62_6
        try clear hfz64_0
        try clear hfz64_1
        try clear hfz64_2
        try clear hfz64_3
        try clear hfz64_4
        try clear hfz64_5
        try clear hfz64_6
        try clear hfz66_0
        try clear hfz66_1
        try clear hfz66_2
        try clear hfz66_3
        try clear hfz66_4
        try clear hfz66_5
        try clear hfz66_6
        try clear hfz71_0
        try clear hfz71_1
        try clear hfz71_2
        try clear hfz71_3
        try clear hfz71_4
        try clear hfz71_5
        try clear hfz71_6
        try clear p2
        obtain ⟨kq, x74_57, rfl, HA, HJ57, BK287, BK301, HB⟩ := hcut
        cases kq with
        | zero => exact absurd HA.out (by simp [ferrulelaw16_SizeTells.j1])
        | succ kj57 =>
          have H := HA.out
          clear HA
          simp only [ferrulelaw16_SizeTells.j1] at H
          by_cases c72 : x74_57 = true
          · subst c72
            have H1 : (if t318 = 1 then (if t320 = 1 then (if t317 = 0 then (some (t319 == 0)) else (some false)) else (some false)) else (some false)) = some r := by rw [if_pos rfl] at H; exact H
            clear H
            have H := H1
            clear H1
            by_cases c73 : t318 = 1
            · rw [if_pos c73] at H
              have c73b0 : (t318 == 1) = true := beq_iff_eq.mpr c73
              have c73b1 : (t318 != 1) = false := bne_eq_false_iff_eq.mpr c73
              clear c73
              by_cases c74 : t320 = 1
              · rw [if_pos c74] at H
                have c74b0 : (t320 == 1) = true := beq_iff_eq.mpr c74
                have c74b1 : (t320 != 1) = false := bne_eq_false_iff_eq.mpr c74
                clear c74
                by_cases c75 : t317 = 0
                · rw [if_pos c75] at H
                  have c75b0 : (t317 == 0) = true := beq_iff_eq.mpr c75
                  have c75b1 : (t317 != 0) = false := bne_eq_false_iff_eq.mpr c75
                  clear c75
                  obtain rfl := Option.some.inj H
                  go_wp2
                  go_ret
                  exact ⟨by first | rfl | (simp [errW_none, errW_some] <;> rfl) | (simp [*, errW_none, errW_some] <;> rfl), by repeat (first | (with_reducible first | exact HB.out | apply below_alloc | apply pw_below_drewN | apply below_drew1 | refine below_set ?_ GE287.out | refine below_set ?_ GE301.out) | exact HB.out)⟩
                · rw [if_neg c75] at H
                  exact absurd ((Option.some.inj H).trans Hr) (by decide)
              · rw [if_neg c74] at H
                exact absurd ((Option.some.inj H).trans Hr) (by decide)
            · rw [if_neg c73] at H
              exact absurd ((Option.some.inj H).trans Hr) (by decide)
          · replace c72 := Bool.eq_false_iff.mpr c72
            subst c72
            have H1 : (if t318 = 0 then ((ferruleref16_Rewrites.f a0_0 a0_1 a0_2 a0_3 a0_4 a0_5 a0_6 a1).bind fun t322 => (ferrulelaw16_SizeTells.j2 kj57 a1 a2 t319 t320 (t317 != t322) a0_0 a0_1 a0_2 a0_3 a0_4 a0_5 a0_6)) else (ferrulelaw16_SizeTells.j2 kj57 a1 a2 t319 t320 true a0_0 a0_1 a0_2 a0_3 a0_4 a0_5 a0_6)) = some r := by rw [if_neg (show ¬ (false = true) by decide)] at H; exact H
            clear H
            have H := H1
            clear H1
            have HC76 := Aside0.mk H
            clear H
            go_upto_region 16 with (fail)
            go_cut [97] (fun v97 wc => ∃ (kq : Nat) (x97_75 : Bool), v97 = .bool x97_75 ∧ Aside0 (ferrulelaw16_SizeTells.j2 kq a1 a2 t319 t320 x97_75 a0_0 a0_1 a0_2 a0_3 a0_4 a0_5 a0_6 = some r) ∧ Aside0 (kq ≤ kj57) ∧ Aside0 (wc.heap[gb287]? = some (.cells #[.int .i64 a0_0, .int .i64 a0_1, .int .i64 a0_2, .int .i64 a0_3, .int .i64 a0_4, .int .i64 a0_5, .bool a0_6] 29 (0, 0))) ∧ Aside0 (wc.heap[gb301]? = some (.cells #[.int .i64 t289, .int .i64 t290, .int .i64 t291, .int .i64 t292, .int .i64 t293, .int .i64 t294, .int .i64 t295, .int .i64 t296, .int .i64 t297, .int .i64 t298, .int .i64 t299] 24 (0, 0))) ∧ Aside0 (Below w.heap.size w wc))
            case first =>
              have H := HC76.out
              clear HC76
              by_cases c77 : t318 = 0
              · rw [if_pos c77] at H
                have c77b0 : (t318 == 0) = true := beq_iff_eq.mpr c77
                have c77b1 : (t318 != 0) = false := bne_eq_false_iff_eq.mpr c77
                clear c77
                (first | rw [c77b0] | (simp only [i64_w, i32_w]; rw [c77b0]) | skip)
                replace H := Option.bind_eq_some_iff.mp H
                obtain ⟨t322, A780, H⟩ := H
                replace H : (ferrulelaw16_SizeTells.j2 kj57 a1 a2 t319 t320 (t317 != t322) a0_0 a0_1 a0_2 a0_3 a0_4 a0_5 a0_6) = some r := H
                have A78 := Aside0.mk A780
                clear A780
                have H' := Aside0.mk H
                clear H
                have hnb79 := NB287_301.out
                have hnc79 := NB301_287.out
                have hcz80_0 : wc.cell? ⟨gb287, 0, none⟩ = some (.int .i64 a0_0) := (blk_cell BK287.out 0).trans rfl
                have hcz80_1 : wc.cell? ⟨gb287, 1, none⟩ = some (.int .i64 a0_1) := (blk_cell BK287.out 1).trans rfl
                have hcz80_2 : wc.cell? ⟨gb287, 2, none⟩ = some (.int .i64 a0_2) := (blk_cell BK287.out 2).trans rfl
                have hcz80_3 : wc.cell? ⟨gb287, 3, none⟩ = some (.int .i64 a0_3) := (blk_cell BK287.out 3).trans rfl
                have hcz80_4 : wc.cell? ⟨gb287, 4, none⟩ = some (.int .i64 a0_4) := (blk_cell BK287.out 4).trans rfl
                have hcz80_5 : wc.cell? ⟨gb287, 5, none⟩ = some (.int .i64 a0_5) := (blk_cell BK287.out 5).trans rfl
                have hcz80_6 : wc.cell? ⟨gb287, 6, none⟩ = some (.bool a0_6) := (blk_cell BK287.out 6).trans rfl
                have hfz80_0 := blk_frozen BK287.out 0
                have hfz80_1 := blk_frozen BK287.out 1
                have hfz80_2 := blk_frozen BK287.out 2
                have hfz80_3 := blk_frozen BK287.out 3
                have hfz80_4 := blk_frozen BK287.out 4
                have hfz80_5 := blk_frozen BK287.out 5
                have hfz80_6 := blk_frozen BK287.out 6
                go_wp2_with (first | (go_at_call 18; (with_reducible refine (ferruleref16_Rewrites.calls a0_0 a0_1 a0_2 a0_3 a0_4 a0_5 a0_6 a1 t322 _ A78.out).mono ?_); rintro e w81 ⟨rfl, hb⟩; have n0_ := Aside0.mk (blk_below (g := gb287) (o := .cells #[.int .i64 a0_0, .int .i64 a0_1, .int .i64 a0_2, .int .i64 a0_3, .int .i64 a0_4, .int .i64 a0_5, .bool a0_6] 29 (0, 0)) (by (with_reducible repeat (first | refine blk_drewN ?_ _ | refine blk_drew ?_ | refine blk_alloc ?_ _)); exact BK287.out) hb); have n1_ := Aside0.mk (blk_below (g := gb301) (o := .cells #[.int .i64 t289, .int .i64 t290, .int .i64 t291, .int .i64 t292, .int .i64 t293, .int .i64 t294, .int .i64 t295, .int .i64 t296, .int .i64 t297, .int .i64 t298, .int .i64 t299] 24 (0, 0)) (by (with_reducible repeat (first | refine blk_drewN ?_ _ | refine blk_drew ?_ | refine blk_alloc ?_ _)); exact BK301.out) hb); have n2_ := Aside0.mk (below_step (by repeat (first | (with_reducible first | exact HB.out | apply below_alloc | apply pw_below_drewN | apply below_drew1 | refine below_set ?_ GE287.out | refine below_set ?_ GE301.out) | exact HB.out)) hb); clear BK287; clear BK301; clear HB; have BK287 := n0_; have BK301 := n1_; have HB := n2_; clear n0_ n1_ n2_; (try clear hb); (try clear hb2); (try clear hk); (try clear hi)))
                go_meet
                case rel => exact ⟨_, ((t317 != t322)), (by first | rfl | (simp; done) | (simp [*]; done)), H', ⟨by have := HJ7.out; have := HJ57.out; first | omega | exact Nat.le_refl _⟩, ⟨by (with_reducible repeat (first | refine blk_drewN ?_ _ | refine blk_drew ?_ | refine blk_alloc ?_ _)); exact BK287.out⟩, ⟨by (with_reducible repeat (first | refine blk_drewN ?_ _ | refine blk_drew ?_ | refine blk_alloc ?_ _)); exact BK301.out⟩, ⟨by repeat (first | (with_reducible first | exact HB.out | apply below_alloc | apply pw_below_drewN | apply below_drew1 | refine below_set ?_ GE287.out | refine below_set ?_ GE301.out) | exact HB.out)⟩⟩
              · rw [if_neg c77] at H
                have c77b0 : (t318 == 0) = false := beq_eq_false_iff_ne.mpr c77
                have c77b1 : (t318 != 0) = true := bne_iff_ne.mpr c77
                (first | rw [c77b0] | (simp only [i64_w, i32_w]; rw [c77b0]) | skip)
                have H' := Aside0.mk H
                clear H
                go_wp2
                go_meet
                case rel => exact ⟨_, (true), (by first | rfl | (simp; done) | (simp [*]; done)), H', ⟨by have := HJ7.out; have := HJ57.out; first | omega | exact Nat.le_refl _⟩, ⟨by (with_reducible repeat (first | refine blk_drewN ?_ _ | refine blk_drew ?_ | refine blk_alloc ?_ _)); exact BK287.out⟩, ⟨by (with_reducible repeat (first | refine blk_drewN ?_ _ | refine blk_drew ?_ | refine blk_alloc ?_ _)); exact BK301.out⟩, ⟨by repeat (first | (with_reducible first | exact HB.out | apply below_alloc | apply pw_below_drewN | apply below_drew1 | refine below_set ?_ GE287.out | refine below_set ?_ GE301.out) | exact HB.out)⟩⟩
            case rest =>
              clear HC76
              try clear c1
              try clear c2
              try clear p2
              try clear c3
              try clear c4
              try clear c5
              try clear c6
              try clear c7
              try clear c8
              try clear c9
              try clear c11
              try clear c12
              try clear c13
              try clear c14
              try clear c15
              try clear c16
              try clear c17
              try clear c18
              try clear c19
              try clear c19b0
              try clear c19b1
              try clear c22
              try clear c30
              try clear c30b0
              try clear c30b1
              try clear c31
              try clear c31b0
              try clear c32
              try clear c35
              try clear c36
              try clear c40
              try clear c48
              try clear c48b0
              try clear c48b1
              try clear c48b2
              try clear c49
              try clear c59
              try clear c68
              try clear c69
              try clear c69b0
              try clear c70
              try clear c72
              try clear c73
              try clear c73b0
              try clear c73b1
              try clear c74
              try clear c74b0
              try clear c74b1
              try clear c75
              try clear c75b0
              try clear c75b1
              try clear c77
              try clear c77b0
              try clear c77b1
              try clear c79
              try clear hcz11_0
              try clear hcz11_1
              try clear hcz11_2
              try clear hcz11_3
              try clear hcz11_4
              try clear hcz11_5
              try clear hcz11_6
              try clear hcz15_0
              try clear hcz15_1
              try clear hcz15_10
              try clear hcz15_2
              try clear hcz15_3
              try clear hcz15_4
              try clear hcz15_5
              try clear hcz15_6
              try clear hcz15_7
              try clear hcz15_8
              try clear hcz15_9
              try clear hcz16_0
              try clear hcz16_1
              try clear hcz16_2
              try clear hcz16_3
              try clear hcz16_4
              try clear hcz16_5
              try clear hcz16_6
              try clear hcz33_0
              try clear hcz33_1
              try clear hcz33_10
              try clear hcz33_2
              try clear hcz33_3
              try clear hcz33_4
              try clear hcz33_5
              try clear hcz33_6
              try clear hcz33_7
              try clear hcz33_8
              try clear hcz33_9
              try clear hcz37_0
              try clear hcz37_1
              try clear hcz37_10
              try clear hcz37_2
              try clear hcz37_3
              try clear hcz37_4
              try clear hcz37_5
              try clear hcz37_6
              try clear hcz37_7
              try clear hcz37_8
              try clear hcz37_9
              try clear hcz38_0
              try clear hcz38_1
              try clear hcz38_2
              try clear hcz38_3
              try clear hcz38_4
              try clear hcz38_5
              try clear hcz38_6
              try clear hcz41_0
              try clear hcz41_1
              try clear hcz41_10
              try clear hcz41_2
              try clear hcz41_3
              try clear hcz41_4
              try clear hcz41_5
              try clear hcz41_6
              try clear hcz41_7
              try clear hcz41_8
              try clear hcz41_9
              try clear hcz42_0
              try clear hcz42_1
              try clear hcz42_2
              try clear hcz42_3
              try clear hcz42_4
              try clear hcz42_5
              try clear hcz42_6
              try clear hcz50_0
              try clear hcz50_1
              try clear hcz50_2
              try clear hcz50_3
              try clear hcz50_4
              try clear hcz50_5
              try clear hcz50_6
              try clear hcz52_0
              try clear hcz52_1
              try clear hcz52_2
              try clear hcz52_3
              try clear hcz52_4
              try clear hcz52_5
              try clear hcz52_6
              try clear hcz54_0
              try clear hcz54_1
              try clear hcz54_2
              try clear hcz54_3
              try clear hcz54_4
              try clear hcz54_5
              try clear hcz54_6
              try clear hcz56_0
              try clear hcz56_1
              try clear hcz56_2
              try clear hcz56_3
              try clear hcz56_4
              try clear hcz56_5
              try clear hcz56_6
              try clear hcz60_0
              try clear hcz60_1
              try clear hcz60_2
              try clear hcz60_3
              try clear hcz60_4
              try clear hcz60_5
              try clear hcz60_6
              try clear hcz62_0
              try clear hcz62_1
              try clear hcz62_2
              try clear hcz62_3
              try clear hcz62_4
              try clear hcz62_5
              try clear hcz62_6
              try clear hcz64_0
              try clear hcz64_1
              try clear hcz64_2
              try clear hcz64_3
              try clear hcz64_4
              try clear hcz64_5
              try clear hcz64_6
              try clear hcz66_0
              try clear hcz66_1
              try clear hcz66_2
              try clear hcz66_3
              try clear hcz66_4
              try clear hcz66_5
              try clear hcz66_6
              try clear hcz71_0
              try clear hcz71_1
              try clear hcz71_2
              try clear hcz71_3
              try clear hcz71_4
              try clear hcz71_5
              try clear hcz71_6
              try clear hcz80_0
              try clear hcz80_1
              try clear hcz80_2
              try clear hcz80_3
              try clear hcz80_4
              try clear hcz80_5
              try clear hcz80_6
              try clear hfz11_0
              try clear hfz11_1
              try clear hfz11_2
              try clear hfz11_3
              try clear hfz11_4
              try clear hfz11_5
              try clear hfz11_6
              try clear hfz15_0
              try clear hfz15_1
              try clear hfz15_10
              try clear hfz15_2
              try clear hfz15_3
              try clear hfz15_4
              try clear hfz15_5
              try clear hfz15_6
              try clear hfz15_7
              try clear hfz15_8
              try clear hfz15_9
              try clear hfz16_0
              try clear hfz16_1
              try clear hfz16_2
              try clear hfz16_3
              try clear hfz16_4
              try clear hfz16_5
              try clear hfz16_6
              try clear hfz33_0
              try clear hfz33_1
              try clear hfz33_10
              try clear hfz33_2
              try clear hfz33_3
              try clear hfz33_4
              try clear hfz33_5
              try clear hfz33_6
              try clear hfz33_7
              try clear hfz33_8
              try clear hfz33_9
              try clear hfz37_0
              try clear hfz37_1
              try clear hfz37_10
              try clear hfz37_2
              try clear hfz37_3
              try clear hfz37_4
              try clear hfz37_5
              try clear hfz37_6
              try clear hfz37_7
              try clear hfz37_8
              try clear hfz37_9
              try clear hfz38_0
              try clear hfz38_1
              try clear hfz38_2
              try clear hfz38_3
              try clear hfz38_4
              try clear hfz38_5
              try clear hfz38_6
              try clear hfz41_0
              try clear hfz41_1
              try clear hfz41_10
              try clear hfz41_2
              try clear hfz41_3
              try clear hfz41_4
              try clear hfz41_5
              try clear hfz41_6
              try clear hfz41_7
              try clear hfz41_8
              try clear hfz41_9
              try clear hfz42_0
              try clear hfz42_1
              try clear hfz42_2
              try clear hfz42_3
              try clear hfz42_4
              try clear hfz42_5
              try clear hfz42_6
              try clear hfz50_0
              try clear hfz50_1
              try clear hfz50_2
              try clear hfz50_3
              try clear hfz50_4
              try clear hfz50_5
              try clear hfz50_6
              try clear hfz52_0
              try clear hfz52_1
              try clear hfz52_2
              try clear hfz52_3
              try clear hfz52_4
              try clear hfz52_5
              try clear hfz52_6
              try clear hfz54_0
              try clear hfz54_1
              try clear hfz54_2
              try clear hfz54_3
              try clear hfz54_4
              try clear hfz54_5
              try clear hfz54_6
              try clear hfz56_0
              try clear hfz56_1
              try clear hfz56_2
              try clear hfz56_3
              try clear hfz56_4
              try clear hfz56_5
              try clear hfz56_6
              try clear hfz60_0
              try clear hfz60_1
              try clear hfz60_2
              try clear hfz60_3
              try clear hfz60_4
              try clear hfz60_5
              try clear hfz60_6
              try clear hfz62_0
              try clear hfz62_1
              try clear hfz62_2
              try clear hfz62_3
              try clear hfz62_4
              try clear hfz62_5
              try clear hfz62_6
              try clear hfz64_0
              try clear hfz64_1
              try clear hfz64_2
              try clear hfz64_3
              try clear hfz64_4
              try clear hfz64_5
              try clear hfz64_6
              try clear hfz66_0
              try clear hfz66_1
              try clear hfz66_2
              try clear hfz66_3
              try clear hfz66_4
              try clear hfz66_5
              try clear hfz66_6
              try clear hfz71_0
              try clear hfz71_1
              try clear hfz71_2
              try clear hfz71_3
              try clear hfz71_4
              try clear hfz71_5
              try clear hfz71_6
              try clear hfz80_0
              try clear hfz80_1
              try clear hfz80_2
              try clear hfz80_3
              try clear hfz80_4
              try clear hfz80_5
              try clear hfz80_6
              try clear p2
              obtain ⟨kq, x97_75, rfl, HA, HJ75, BK287, BK301, HB⟩ := hcut
              cases kq with
              | zero => exact absurd HA.out (by simp [ferrulelaw16_SizeTells.j2])
              | succ kj75 =>
                have H := HA.out
                clear HA
                simp only [ferrulelaw16_SizeTells.j2] at H
                by_cases c82 : x97_75 = true
                · subst c82
                  have H1 : (some false) = some r := by rw [if_pos rfl] at H; exact H
                  exact absurd ((Option.some.inj H1).trans Hr) (by decide)
                · replace c82 := Bool.eq_false_iff.mpr c82
                  subst c82
                  have H1 : (if a2 < 0 then (if t320 = 1 then (some (t319 == 0)) else (some false)) else (if a2 > 1000 then (if t320 = 1 then (some (t319 == 0)) else (some false)) else (if t320 = 0 then ((ferruleref16_CallPrograms.f kj75 a0_0 a0_1 a0_2 a0_3 a0_4 a0_5 a0_6 a1 a2).bind fun t323 => (some (t319 == t323))) else (some false)))) = some r := by rw [if_neg (show ¬ (false = true) by decide)] at H; exact H
                  clear H
                  have H := H1
                  clear H1
                  by_cases c83 : a2 < 0
                  · rw [if_pos c83] at H
                    have c83b0 : decide (a2 < 0) = true := decide_eq_true c83
                    clear c83
                    by_cases c84 : t320 = 1
                    · rw [if_pos c84] at H
                      have c84b0 : (t320 == 1) = true := beq_iff_eq.mpr c84
                      have c84b1 : (t320 != 1) = false := bne_eq_false_iff_eq.mpr c84
                      clear c84
                      obtain rfl := Option.some.inj H
                      go_wp2
                      go_ret
                      exact ⟨by first | rfl | (simp [errW_none, errW_some] <;> rfl) | (simp [*, errW_none, errW_some] <;> rfl), by repeat (first | (with_reducible first | exact HB.out | apply below_alloc | apply pw_below_drewN | apply below_drew1 | refine below_set ?_ GE287.out | refine below_set ?_ GE301.out) | exact HB.out)⟩
                    · rw [if_neg c84] at H
                      exact absurd ((Option.some.inj H).trans Hr) (by decide)
                  · rw [if_neg c83] at H
                    have c83b0 : decide (a2 < 0) = false := decide_eq_false c83
                    clear c83
                    by_cases c85 : a2 > 1000
                    · rw [if_pos c85] at H
                      have c85b0 : decide (1000 < a2) = true := decide_eq_true c85
                      clear c85
                      by_cases c86 : t320 = 1
                      · rw [if_pos c86] at H
                        have c86b0 : (t320 == 1) = true := beq_iff_eq.mpr c86
                        have c86b1 : (t320 != 1) = false := bne_eq_false_iff_eq.mpr c86
                        clear c86
                        obtain rfl := Option.some.inj H
                        go_wp2
                        go_ret
                        exact ⟨by first | rfl | (simp [errW_none, errW_some] <;> rfl) | (simp [*, errW_none, errW_some] <;> rfl), by repeat (first | (with_reducible first | exact HB.out | apply below_alloc | apply pw_below_drewN | apply below_drew1 | refine below_set ?_ GE287.out | refine below_set ?_ GE301.out) | exact HB.out)⟩
                      · rw [if_neg c86] at H
                        exact absurd ((Option.some.inj H).trans Hr) (by decide)
                    · rw [if_neg c85] at H
                      have c85b0 : decide (1000 < a2) = false := decide_eq_false c85
                      clear c85
                      by_cases c87 : t320 = 0
                      · rw [if_pos c87] at H
                        have c87b0 : (t320 == 0) = true := beq_iff_eq.mpr c87
                        have c87b1 : (t320 != 0) = false := bne_eq_false_iff_eq.mpr c87
                        clear c87
                        replace H := Option.bind_eq_some_iff.mp H
                        obtain ⟨t323, A880, H⟩ := H
                        replace H : (some (t319 == t323)) = some r := H
                        have A88 := Aside0.mk A880
                        clear A880
                        obtain rfl := Option.some.inj H
                        have hnb89 := NB287_301.out
                        have hnc89 := NB301_287.out
                        have hcz90_0 : wc.cell? ⟨gb287, 0, none⟩ = some (.int .i64 a0_0) := (blk_cell BK287.out 0).trans rfl
                        have hcz90_1 : wc.cell? ⟨gb287, 1, none⟩ = some (.int .i64 a0_1) := (blk_cell BK287.out 1).trans rfl
                        have hcz90_2 : wc.cell? ⟨gb287, 2, none⟩ = some (.int .i64 a0_2) := (blk_cell BK287.out 2).trans rfl
                        have hcz90_3 : wc.cell? ⟨gb287, 3, none⟩ = some (.int .i64 a0_3) := (blk_cell BK287.out 3).trans rfl
                        have hcz90_4 : wc.cell? ⟨gb287, 4, none⟩ = some (.int .i64 a0_4) := (blk_cell BK287.out 4).trans rfl
                        have hcz90_5 : wc.cell? ⟨gb287, 5, none⟩ = some (.int .i64 a0_5) := (blk_cell BK287.out 5).trans rfl
                        have hcz90_6 : wc.cell? ⟨gb287, 6, none⟩ = some (.bool a0_6) := (blk_cell BK287.out 6).trans rfl
                        have hfz90_0 := blk_frozen BK287.out 0
                        have hfz90_1 := blk_frozen BK287.out 1
                        have hfz90_2 := blk_frozen BK287.out 2
                        have hfz90_3 := blk_frozen BK287.out 3
                        have hfz90_4 := blk_frozen BK287.out 4
                        have hfz90_5 := blk_frozen BK287.out 5
                        have hfz90_6 := blk_frozen BK287.out 6
                        go_wp2_with (first | (go_at_call 19; (with_reducible refine (ferruleref16_CallPrograms.calls kj75 a0_0 a0_1 a0_2 a0_3 a0_4 a0_5 a0_6 a1 a2 t323 _ A88.out).mono ?_); rintro e w91 ⟨rfl, hb⟩; have n0_ := Aside0.mk (blk_below (g := gb287) (o := .cells #[.int .i64 a0_0, .int .i64 a0_1, .int .i64 a0_2, .int .i64 a0_3, .int .i64 a0_4, .int .i64 a0_5, .bool a0_6] 29 (0, 0)) (by (with_reducible repeat (first | refine blk_drewN ?_ _ | refine blk_drew ?_ | refine blk_alloc ?_ _)); exact BK287.out) hb); have n1_ := Aside0.mk (blk_below (g := gb301) (o := .cells #[.int .i64 t289, .int .i64 t290, .int .i64 t291, .int .i64 t292, .int .i64 t293, .int .i64 t294, .int .i64 t295, .int .i64 t296, .int .i64 t297, .int .i64 t298, .int .i64 t299] 24 (0, 0)) (by (with_reducible repeat (first | refine blk_drewN ?_ _ | refine blk_drew ?_ | refine blk_alloc ?_ _)); exact BK301.out) hb); have n2_ := Aside0.mk (below_step (by repeat (first | (with_reducible first | exact HB.out | apply below_alloc | apply pw_below_drewN | apply below_drew1 | refine below_set ?_ GE287.out | refine below_set ?_ GE301.out) | exact HB.out)) hb); clear BK287; clear BK301; clear HB; have BK287 := n0_; have BK301 := n1_; have HB := n2_; clear n0_ n1_ n2_; (try clear hb); (try clear hb2); (try clear hk); (try clear hi)))
                        go_ret
                        exact ⟨by first | rfl | (simp [errW_none, errW_some] <;> rfl) | (simp [*, errW_none, errW_some] <;> rfl), by repeat (first | (with_reducible first | exact HB.out | apply below_alloc | apply pw_below_drewN | apply below_drew1 | refine below_set ?_ GE287.out | refine below_set ?_ GE301.out) | exact HB.out)⟩
                      · rw [if_neg c87] at H
                        exact absurd ((Option.some.inj H).trans Hr) (by decide)
 }
 {
 replace c5 := Bool.eq_false_iff.mpr c5
 subst c5
 have H1 : (some false) = some r := by rw [if_neg (show ¬ (false = true) by decide)] at H; exact H
 exact absurd ((Option.some.inj H1).trans Hr) (by decide)
 }

/-- THE ONE PURE STATEMENT of ferrulelaw16_SizeTells: yours. -/
def ferrulelaw16_SizeTells.Pure : Prop := ∀ (a0_0 : Int) (a0_1 : Int) (a0_2 : Int) (a0_3 : Int) (a0_4 : Int) (a0_5 : Int) (a0_6 : Bool) (a1 : Int) (a2 : Int), (Lit.int .i64 a0_0).wf = true → (Lit.int .i64 a0_1).wf = true → (Lit.int .i64 a0_2).wf = true → (Lit.int .i64 a0_3).wf = true → (Lit.int .i64 a0_4).wf = true → (Lit.int .i64 a0_5).wf = true → (Lit.int .i64 a1).wf = true → (Lit.int .i64 a2).wf = true → ∃ k, ferrulelaw16_SizeTells.f k a0_0 a0_1 a0_2 a0_3 a0_4 a0_5 a0_6 a1 a2 = some true
theorem ferrulelaw16_SizeTells.walk (P : ferrulelaw16_SizeTells.Pure) (a0_0 : Int) (a0_1 : Int) (a0_2 : Int) (a0_3 : Int) (a0_4 : Int) (a0_5 : Int) (a0_6 : Bool) (a1 : Int) (a2 : Int) (w : World) (w0_0 : (Lit.int .i64 a0_0).wf = true) (w0_1 : (Lit.int .i64 a0_1).wf = true) (w0_2 : (Lit.int .i64 a0_2).wf = true) (w0_3 : (Lit.int .i64 a0_3).wf = true) (w0_4 : (Lit.int .i64 a0_4).wf = true) (w0_5 : (Lit.int .i64 a0_5).wf = true) (w1 : (Lit.int .i64 a1).wf = true) (w2 : (Lit.int .i64 a2).wf = true) :
    Calls Try.prog 4 #[.agg #[.int .i64 a0_0, .int .i64 a0_1, .int .i64 a0_2, .int .i64 a0_3, .int .i64 a0_4, .int .i64 a0_5, .bool a0_6], .int .i64 a1, .int .i64 a2] w fun e w' => e = .returned (.bool true) ∧ Below w.heap.size w w' := by
  obtain ⟨k, h⟩ := P a0_0 a0_1 a0_2 a0_3 a0_4 a0_5 a0_6 a1 a2 w0_0 w0_1 w0_2 w0_3 w0_4 w0_5 w1 w2
  refine (ferrulelaw16_SizeTells.calls k a0_0 a0_1 a0_2 a0_3 a0_4 a0_5 a0_6 a1 a2 true w rfl h).mono ?_
  rintro e w' ⟨rfl, hd⟩
  exact ⟨rfl, hd⟩

end Go.Proofs.Ytbeaekknpejnlaa.PSizeTells
