-- By a program of this session (NOTES.md). Lean checks it.
import Derived.Test.YtnogokemjcfaoaaPBlocksRunsx0
import Derived.Test.YtnogokemjcfaoaaPBlocksRunsx3
import Derived.Test.YtnogokemjcfaoaaPBlocksRunsx4
import Derived.Test.YtnogokemjcfaoaaPBlocksRunsx5
import Derived.Test.YtnogokemjcfaoaaPBlocksRunsx6
import Derived.Test.YtnogokemjcfaoaaPBlocksRunsx7
namespace Go.Proofs.Ytnogokemjcfaoaa.PBlocksRuns
open Go.RowKit Go.Proofs.YtnogokemjcfaoaaW.PrintWords Go.Proofs.YtnogokemjcfaoaaW.PrintLast Go.Proofs.YtnogokemjcfaoaaW.PrintMore
attribute [local go_sem] max2_int min2_int max_two min_two max_three min_three max_four min_four   -- for this text's walks alone
set_option linter.unusedVariables false
set_option linter.unusedSimpArgs false

/-! ### ferrulelaw13_tells: function 13 -/
mutual
def ferrulelaw13_tells.j0 : Nat → List (S35) → Int → Int → Int → List Int → Int → List (S35) → Int → List (S35) → Int → Bool → Option (Bool)
  | 0, _, _, _, _, _, _, _, _, _, _, _ => none
  | k + 1, x0, x1, x2, x3, x10, x11, x12, x13, x14, x15, x16 => if x16 = true then (if x1 < 1 then (ferrulelaw13_tells.j1 k x0 x1 x2 x3 x10 x11 x12 x13 x14 x15 x16 true) else (if x1 > 64 then (ferrulelaw13_tells.j1 k x0 x1 x2 x3 x10 x11 x12 x13 x14 x15 x16 true) else ((ferruleref13_Inside.f k x0 (wrap64 (x1 * x2))).bind fun t260 => (ferrulelaw13_tells.j1 k x0 x1 x2 x3 x10 x11 x12 x13 x14 x15 x16 (!t260))))) else (ferrulelaw13_tells.j1 k x0 x1 x2 x3 x10 x11 x12 x13 x14 x15 x16 true)
def ferrulelaw13_tells.j1 : Nat → List (S35) → Int → Int → Int → List Int → Int → List (S35) → Int → List (S35) → Int → Bool → Bool → Option (Bool)
  | 0, _, _, _, _, _, _, _, _, _, _, _, _ => none
  | k + 1, x0, x1, x2, x3, x10, x11, x12, x13, x14, x15, x16, x78 => if x78 = true then (if x11 = 1 then (if (x10.length : Int) = 0 then (ferrulelaw13_tells.j2 k x0 x2 x3 x12 x13 x14 x15 x16) else (some false)) else (some false)) else (if x11 = 0 then ((ferruleref13_Valid.f k x0 x1 x2).bind fun t261 => ((ferrulelaw13_ints.f k x10 t261).bind fun t264 => (if t264 = true then (ferrulelaw13_tells.j2 k x0 x2 x3 x12 x13 x14 x15 x16) else (some false)))) else (some false))
def ferrulelaw13_tells.j2 : Nat → List (S35) → Int → Int → List (S35) → Int → List (S35) → Int → Bool → Option (Bool)
  | 0, _, _, _, _, _, _, _, _ => none
  | k + 1, x0, x2, x3, x12, x13, x14, x15, x16 => if x16 = true then ((ferruleref13_Inside.f k x0 1049089).bind fun t265 => (ferrulelaw13_tells.j3 k x0 x2 x3 x12 x13 x14 x15 t265)) else (ferrulelaw13_tells.j3 k x0 x2 x3 x12 x13 x14 x15 false)
def ferrulelaw13_tells.j3 : Nat → List (S35) → Int → Int → List (S35) → Int → List (S35) → Int → Bool → Option (Bool)
  | 0, _, _, _, _, _, _, _, _ => none
  | k + 1, x0, x2, x3, x12, x13, x14, x15, x16 => ferrulelaw13_tells.l0 k x0 x2 x3 x12 x13 x14 x15 x16 0
def ferrulelaw13_tells.l0 : Nat → List (S35) → Int → Int → List (S35) → Int → List (S35) → Int → Bool → Int → Option (Bool)
  | 0, _, _, _, _, _, _, _, _, _ => none
  | k + 1, x0, x2, x3, x12, x13, x14, x15, x16, x17 => if x17 < (x0.length : Int) then (if x16 = true then (if 0 ≤ x17 then (ferrulelaw13_tells.l0 k x0 x2 x3 x12 x13 x14 x15 (decide (((rd_T35 x0 x17).f2) ≤ 1048576)) (wrap64 (x17 + 1))) else (none)) else (ferrulelaw13_tells.l0 k x0 x2 x3 x12 x13 x14 x15 false (wrap64 (x17 + 1)))) else (if x16 = true then (if x13 = 0 then ((ferruleref13_Split.f k x0 x2).bind fun t267 => ((ferruleref9_Same.f k x12 t267).bind fun t270 => (ferrulelaw13_tells.j5 k x0 x2 x3 x14 x15 (!t270)))) else (ferrulelaw13_tells.j5 k x0 x2 x3 x14 x15 true)) else (if x13 = 1 then (if x15 = 1 then (if (x12.length : Int) = 0 then (some ((x14.length : Int) == 0)) else (some false)) else (some false)) else (some false)))
def ferrulelaw13_tells.j5 : Nat → List (S35) → Int → Int → List (S35) → Int → Bool → Option (Bool)
  | 0, _, _, _, _, _, _ => none
  | k + 1, x0, x2, x3, x14, x15, x144 => if x144 = true then (some false) else (if x3 < 0 then (ferrulelaw13_tells.j6 k x0 x2 x3 x14 x15 true) else (ferrulelaw13_tells.j6 k x0 x2 x3 x14 x15 (decide (x3 ≥ 64))))
def ferrulelaw13_tells.j6 : Nat → List (S35) → Int → Int → List (S35) → Int → Bool → Option (Bool)
  | 0, _, _, _, _, _, _ => none
  | k + 1, x0, x2, x3, x14, x15, x150 => if x150 = true then (if x15 = 1 then (some ((x14.length : Int) == 0)) else (some false)) else (if x15 = 0 then ((ferruleref13_Moves.f k x0 x3 x2).bind fun t271 => ((ferruleref9_Same.f k x14 t271).bind fun t274 => (some t274))) else (some false))
end
def ferrulelaw13_tells.f (k : Nat) (l0 : List (S35)) (a1 : Int) (a2 : Int) (a3 : Int) : Option (Bool) := (some (([] : List (S35)) : List (S35))).bind fun y233 => (if y233.length + l0.length < 5864062014805 then ((some (y233 ++ l0 : List (S35))).bind fun y236 => (if y236.length < 5864062014805 then ((some (y236 ++ [(⟨9, 0, 0⟩ : S35)] : List (S35))).bind fun y239 => (if 0 ≤ (l0.length : Int) then (if (l0.length : Int) ≤ (y239.length : Int) then ((some (y239.take ((l0.length : Int) : Int).toNat : List (S35))).bind fun y242 => ((blocks_Valid.f k y242 a1 a2).bind fun bt246 => ((blocks_Split.f k y242 a2).bind fun bt250 => ((blocks_Moves.f k y242 a3 a2).bind fun bt254 => ((ferruleref9_Same.f k y242 l0).bind fun t258 => (if t258 = true then (if a2 ≥ 1 then (if a2 ≤ 32 then ((ferruleref13_Fits.f k l0).bind fun t259 => (ferrulelaw13_tells.j0 k l0 a1 a2 a3 bt246.1 bt246.2 bt250.1 bt250.2 bt254.1 bt254.2 t259)) else (ferrulelaw13_tells.j0 k l0 a1 a2 a3 bt246.1 bt246.2 bt250.1 bt250.2 bt254.1 bt254.2 false)) else (ferrulelaw13_tells.j0 k l0 a1 a2 a3 bt246.1 bt246.2 bt250.1 bt250.2 bt254.1 bt254.2 false)) else (some false))))))) else (none)) else (none))) else (none))) else (none))
theorem ferrulelaw13_tells.mono_l : ∀ k, (∀ y0 y1 y2 y3 y4 y5 y6 y7 y8 y9 y10, LeO (ferrulelaw13_tells.j0 k y0 y1 y2 y3 y4 y5 y6 y7 y8 y9 y10) (ferrulelaw13_tells.j0 (k + 1) y0 y1 y2 y3 y4 y5 y6 y7 y8 y9 y10)) ∧ (∀ y0 y1 y2 y3 y4 y5 y6 y7 y8 y9 y10 y11, LeO (ferrulelaw13_tells.j1 k y0 y1 y2 y3 y4 y5 y6 y7 y8 y9 y10 y11) (ferrulelaw13_tells.j1 (k + 1) y0 y1 y2 y3 y4 y5 y6 y7 y8 y9 y10 y11)) ∧ (∀ y0 y1 y2 y3 y4 y5 y6 y7, LeO (ferrulelaw13_tells.j2 k y0 y1 y2 y3 y4 y5 y6 y7) (ferrulelaw13_tells.j2 (k + 1) y0 y1 y2 y3 y4 y5 y6 y7)) ∧ (∀ y0 y1 y2 y3 y4 y5 y6 y7, LeO (ferrulelaw13_tells.j3 k y0 y1 y2 y3 y4 y5 y6 y7) (ferrulelaw13_tells.j3 (k + 1) y0 y1 y2 y3 y4 y5 y6 y7)) ∧ (∀ y0 y1 y2 y3 y4 y5 y6 y7 y8, LeO (ferrulelaw13_tells.l0 k y0 y1 y2 y3 y4 y5 y6 y7 y8) (ferrulelaw13_tells.l0 (k + 1) y0 y1 y2 y3 y4 y5 y6 y7 y8)) ∧ (∀ y0 y1 y2 y3 y4 y5, LeO (ferrulelaw13_tells.j5 k y0 y1 y2 y3 y4 y5) (ferrulelaw13_tells.j5 (k + 1) y0 y1 y2 y3 y4 y5)) ∧ (∀ y0 y1 y2 y3 y4 y5, LeO (ferrulelaw13_tells.j6 k y0 y1 y2 y3 y4 y5) (ferrulelaw13_tells.j6 (k + 1) y0 y1 y2 y3 y4 y5))
  | 0 => ⟨fun _ _ _ _ _ _ _ _ _ _ _ r h => by simp [ferrulelaw13_tells.j0] at h, fun _ _ _ _ _ _ _ _ _ _ _ _ r h => by simp [ferrulelaw13_tells.j1] at h, fun _ _ _ _ _ _ _ _ r h => by simp [ferrulelaw13_tells.j2] at h, fun _ _ _ _ _ _ _ _ r h => by simp [ferrulelaw13_tells.j3] at h, fun _ _ _ _ _ _ _ _ _ r h => by simp [ferrulelaw13_tells.l0] at h, fun _ _ _ _ _ _ r h => by simp [ferrulelaw13_tells.j5] at h, fun _ _ _ _ _ _ r h => by simp [ferrulelaw13_tells.j6] at h⟩
  | k + 1 => by
    obtain ⟨ih0, ih1, ih2, ih3, ih4, ih5, ih6⟩ := ferrulelaw13_tells.mono_l k
    refine ⟨?_, ?_, ?_, ?_, ?_, ?_, ?_⟩
    · intro y0 y1 y2 y3 y4 y5 y6 y7 y8 y9 y10
      unfold ferrulelaw13_tells.j0
      repeat' first
      | (with_reducible exact ih0 _ _ _ _ _ _ _ _ _ _ _)
      | (with_reducible exact ih1 _ _ _ _ _ _ _ _ _ _ _ _)
      | (with_reducible exact ih2 _ _ _ _ _ _ _ _)
      | (with_reducible exact ih3 _ _ _ _ _ _ _ _)
      | (with_reducible exact ih4 _ _ _ _ _ _ _ _ _)
      | (with_reducible exact ih5 _ _ _ _ _ _)
      | (with_reducible exact ih6 _ _ _ _ _ _)
      | (with_reducible exact blocks_Moves.mono _ _ _ _)
      | (with_reducible exact blocks_Split.mono _ _ _)
      | (with_reducible exact blocks_Valid.mono _ _ _ _)
      | (with_reducible exact ferrulelaw13_ints.mono _ _ _)
      | (with_reducible exact ferruleref13_Fits.mono _ _)
      | (with_reducible exact ferruleref13_Inside.mono _ _ _)
      | (with_reducible exact ferruleref13_Moves.mono _ _ _ _)
      | (with_reducible exact ferruleref13_Split.mono _ _ _)
      | (with_reducible exact ferruleref13_Valid.mono _ _ _ _)
      | (with_reducible exact ferruleref9_Same.mono _ _ _)
      | (with_reducible exact LeO.refl _)
      | (with_reducible exact LeO.none _)
      | (with_reducible refine LeO.ite ?_ ?_)
      | (with_reducible refine LeO.bind ?_ (fun _ => ?_))
      | exact ih0 _ _ _ _ _ _ _ _ _ _ _
      | exact ih1 _ _ _ _ _ _ _ _ _ _ _ _
      | exact ih2 _ _ _ _ _ _ _ _
      | exact ih3 _ _ _ _ _ _ _ _
      | exact ih4 _ _ _ _ _ _ _ _ _
      | exact ih5 _ _ _ _ _ _
      | exact ih6 _ _ _ _ _ _
      | exact blocks_Moves.mono _ _ _ _
      | exact blocks_Split.mono _ _ _
      | exact blocks_Valid.mono _ _ _ _
      | exact ferrulelaw13_ints.mono _ _ _
      | exact ferruleref13_Fits.mono _ _
      | exact ferruleref13_Inside.mono _ _ _
      | exact ferruleref13_Moves.mono _ _ _ _
      | exact ferruleref13_Split.mono _ _ _
      | exact ferruleref13_Valid.mono _ _ _ _
      | exact ferruleref9_Same.mono _ _ _
      | exact LeO.none _
      | refine LeO.ite ?_ ?_
      | refine LeO.bind ?_ (fun _ => ?_)
    · intro y0 y1 y2 y3 y4 y5 y6 y7 y8 y9 y10 y11
      unfold ferrulelaw13_tells.j1
      repeat' first
      | (with_reducible exact ih0 _ _ _ _ _ _ _ _ _ _ _)
      | (with_reducible exact ih1 _ _ _ _ _ _ _ _ _ _ _ _)
      | (with_reducible exact ih2 _ _ _ _ _ _ _ _)
      | (with_reducible exact ih3 _ _ _ _ _ _ _ _)
      | (with_reducible exact ih4 _ _ _ _ _ _ _ _ _)
      | (with_reducible exact ih5 _ _ _ _ _ _)
      | (with_reducible exact ih6 _ _ _ _ _ _)
      | (with_reducible exact blocks_Moves.mono _ _ _ _)
      | (with_reducible exact blocks_Split.mono _ _ _)
      | (with_reducible exact blocks_Valid.mono _ _ _ _)
      | (with_reducible exact ferrulelaw13_ints.mono _ _ _)
      | (with_reducible exact ferruleref13_Fits.mono _ _)
      | (with_reducible exact ferruleref13_Inside.mono _ _ _)
      | (with_reducible exact ferruleref13_Moves.mono _ _ _ _)
      | (with_reducible exact ferruleref13_Split.mono _ _ _)
      | (with_reducible exact ferruleref13_Valid.mono _ _ _ _)
      | (with_reducible exact ferruleref9_Same.mono _ _ _)
      | (with_reducible exact LeO.refl _)
      | (with_reducible exact LeO.none _)
      | (with_reducible refine LeO.ite ?_ ?_)
      | (with_reducible refine LeO.bind ?_ (fun _ => ?_))
      | exact ih0 _ _ _ _ _ _ _ _ _ _ _
      | exact ih1 _ _ _ _ _ _ _ _ _ _ _ _
      | exact ih2 _ _ _ _ _ _ _ _
      | exact ih3 _ _ _ _ _ _ _ _
      | exact ih4 _ _ _ _ _ _ _ _ _
      | exact ih5 _ _ _ _ _ _
      | exact ih6 _ _ _ _ _ _
      | exact blocks_Moves.mono _ _ _ _
      | exact blocks_Split.mono _ _ _
      | exact blocks_Valid.mono _ _ _ _
      | exact ferrulelaw13_ints.mono _ _ _
      | exact ferruleref13_Fits.mono _ _
      | exact ferruleref13_Inside.mono _ _ _
      | exact ferruleref13_Moves.mono _ _ _ _
      | exact ferruleref13_Split.mono _ _ _
      | exact ferruleref13_Valid.mono _ _ _ _
      | exact ferruleref9_Same.mono _ _ _
      | exact LeO.none _
      | refine LeO.ite ?_ ?_
      | refine LeO.bind ?_ (fun _ => ?_)
    · intro y0 y1 y2 y3 y4 y5 y6 y7
      unfold ferrulelaw13_tells.j2
      repeat' first
      | (with_reducible exact ih0 _ _ _ _ _ _ _ _ _ _ _)
      | (with_reducible exact ih1 _ _ _ _ _ _ _ _ _ _ _ _)
      | (with_reducible exact ih2 _ _ _ _ _ _ _ _)
      | (with_reducible exact ih3 _ _ _ _ _ _ _ _)
      | (with_reducible exact ih4 _ _ _ _ _ _ _ _ _)
      | (with_reducible exact ih5 _ _ _ _ _ _)
      | (with_reducible exact ih6 _ _ _ _ _ _)
      | (with_reducible exact blocks_Moves.mono _ _ _ _)
      | (with_reducible exact blocks_Split.mono _ _ _)
      | (with_reducible exact blocks_Valid.mono _ _ _ _)
      | (with_reducible exact ferrulelaw13_ints.mono _ _ _)
      | (with_reducible exact ferruleref13_Fits.mono _ _)
      | (with_reducible exact ferruleref13_Inside.mono _ _ _)
      | (with_reducible exact ferruleref13_Moves.mono _ _ _ _)
      | (with_reducible exact ferruleref13_Split.mono _ _ _)
      | (with_reducible exact ferruleref13_Valid.mono _ _ _ _)
      | (with_reducible exact ferruleref9_Same.mono _ _ _)
      | (with_reducible exact LeO.refl _)
      | (with_reducible exact LeO.none _)
      | (with_reducible refine LeO.ite ?_ ?_)
      | (with_reducible refine LeO.bind ?_ (fun _ => ?_))
      | exact ih0 _ _ _ _ _ _ _ _ _ _ _
      | exact ih1 _ _ _ _ _ _ _ _ _ _ _ _
      | exact ih2 _ _ _ _ _ _ _ _
      | exact ih3 _ _ _ _ _ _ _ _
      | exact ih4 _ _ _ _ _ _ _ _ _
      | exact ih5 _ _ _ _ _ _
      | exact ih6 _ _ _ _ _ _
      | exact blocks_Moves.mono _ _ _ _
      | exact blocks_Split.mono _ _ _
      | exact blocks_Valid.mono _ _ _ _
      | exact ferrulelaw13_ints.mono _ _ _
      | exact ferruleref13_Fits.mono _ _
      | exact ferruleref13_Inside.mono _ _ _
      | exact ferruleref13_Moves.mono _ _ _ _
      | exact ferruleref13_Split.mono _ _ _
      | exact ferruleref13_Valid.mono _ _ _ _
      | exact ferruleref9_Same.mono _ _ _
      | exact LeO.none _
      | refine LeO.ite ?_ ?_
      | refine LeO.bind ?_ (fun _ => ?_)
    · intro y0 y1 y2 y3 y4 y5 y6 y7
      unfold ferrulelaw13_tells.j3
      repeat' first
      | (with_reducible exact ih0 _ _ _ _ _ _ _ _ _ _ _)
      | (with_reducible exact ih1 _ _ _ _ _ _ _ _ _ _ _ _)
      | (with_reducible exact ih2 _ _ _ _ _ _ _ _)
      | (with_reducible exact ih3 _ _ _ _ _ _ _ _)
      | (with_reducible exact ih4 _ _ _ _ _ _ _ _ _)
      | (with_reducible exact ih5 _ _ _ _ _ _)
      | (with_reducible exact ih6 _ _ _ _ _ _)
      | (with_reducible exact blocks_Moves.mono _ _ _ _)
      | (with_reducible exact blocks_Split.mono _ _ _)
      | (with_reducible exact blocks_Valid.mono _ _ _ _)
      | (with_reducible exact ferrulelaw13_ints.mono _ _ _)
      | (with_reducible exact ferruleref13_Fits.mono _ _)
      | (with_reducible exact ferruleref13_Inside.mono _ _ _)
      | (with_reducible exact ferruleref13_Moves.mono _ _ _ _)
      | (with_reducible exact ferruleref13_Split.mono _ _ _)
      | (with_reducible exact ferruleref13_Valid.mono _ _ _ _)
      | (with_reducible exact ferruleref9_Same.mono _ _ _)
      | (with_reducible exact LeO.refl _)
      | (with_reducible exact LeO.none _)
      | (with_reducible refine LeO.ite ?_ ?_)
      | (with_reducible refine LeO.bind ?_ (fun _ => ?_))
      | exact ih0 _ _ _ _ _ _ _ _ _ _ _
      | exact ih1 _ _ _ _ _ _ _ _ _ _ _ _
      | exact ih2 _ _ _ _ _ _ _ _
      | exact ih3 _ _ _ _ _ _ _ _
      | exact ih4 _ _ _ _ _ _ _ _ _
      | exact ih5 _ _ _ _ _ _
      | exact ih6 _ _ _ _ _ _
      | exact blocks_Moves.mono _ _ _ _
      | exact blocks_Split.mono _ _ _
      | exact blocks_Valid.mono _ _ _ _
      | exact ferrulelaw13_ints.mono _ _ _
      | exact ferruleref13_Fits.mono _ _
      | exact ferruleref13_Inside.mono _ _ _
      | exact ferruleref13_Moves.mono _ _ _ _
      | exact ferruleref13_Split.mono _ _ _
      | exact ferruleref13_Valid.mono _ _ _ _
      | exact ferruleref9_Same.mono _ _ _
      | exact LeO.none _
      | refine LeO.ite ?_ ?_
      | refine LeO.bind ?_ (fun _ => ?_)
    · intro y0 y1 y2 y3 y4 y5 y6 y7 y8
      unfold ferrulelaw13_tells.l0
      repeat' first
      | (with_reducible exact ih0 _ _ _ _ _ _ _ _ _ _ _)
      | (with_reducible exact ih1 _ _ _ _ _ _ _ _ _ _ _ _)
      | (with_reducible exact ih2 _ _ _ _ _ _ _ _)
      | (with_reducible exact ih3 _ _ _ _ _ _ _ _)
      | (with_reducible exact ih4 _ _ _ _ _ _ _ _ _)
      | (with_reducible exact ih5 _ _ _ _ _ _)
      | (with_reducible exact ih6 _ _ _ _ _ _)
      | (with_reducible exact blocks_Moves.mono _ _ _ _)
      | (with_reducible exact blocks_Split.mono _ _ _)
      | (with_reducible exact blocks_Valid.mono _ _ _ _)
      | (with_reducible exact ferrulelaw13_ints.mono _ _ _)
      | (with_reducible exact ferruleref13_Fits.mono _ _)
      | (with_reducible exact ferruleref13_Inside.mono _ _ _)
      | (with_reducible exact ferruleref13_Moves.mono _ _ _ _)
      | (with_reducible exact ferruleref13_Split.mono _ _ _)
      | (with_reducible exact ferruleref13_Valid.mono _ _ _ _)
      | (with_reducible exact ferruleref9_Same.mono _ _ _)
      | (with_reducible exact LeO.refl _)
      | (with_reducible exact LeO.none _)
      | (with_reducible refine LeO.ite ?_ ?_)
      | (with_reducible refine LeO.bind ?_ (fun _ => ?_))
      | exact ih0 _ _ _ _ _ _ _ _ _ _ _
      | exact ih1 _ _ _ _ _ _ _ _ _ _ _ _
      | exact ih2 _ _ _ _ _ _ _ _
      | exact ih3 _ _ _ _ _ _ _ _
      | exact ih4 _ _ _ _ _ _ _ _ _
      | exact ih5 _ _ _ _ _ _
      | exact ih6 _ _ _ _ _ _
      | exact blocks_Moves.mono _ _ _ _
      | exact blocks_Split.mono _ _ _
      | exact blocks_Valid.mono _ _ _ _
      | exact ferrulelaw13_ints.mono _ _ _
      | exact ferruleref13_Fits.mono _ _
      | exact ferruleref13_Inside.mono _ _ _
      | exact ferruleref13_Moves.mono _ _ _ _
      | exact ferruleref13_Split.mono _ _ _
      | exact ferruleref13_Valid.mono _ _ _ _
      | exact ferruleref9_Same.mono _ _ _
      | exact LeO.none _
      | refine LeO.ite ?_ ?_
      | refine LeO.bind ?_ (fun _ => ?_)
    · intro y0 y1 y2 y3 y4 y5
      unfold ferrulelaw13_tells.j5
      repeat' first
      | (with_reducible exact ih0 _ _ _ _ _ _ _ _ _ _ _)
      | (with_reducible exact ih1 _ _ _ _ _ _ _ _ _ _ _ _)
      | (with_reducible exact ih2 _ _ _ _ _ _ _ _)
      | (with_reducible exact ih3 _ _ _ _ _ _ _ _)
      | (with_reducible exact ih4 _ _ _ _ _ _ _ _ _)
      | (with_reducible exact ih5 _ _ _ _ _ _)
      | (with_reducible exact ih6 _ _ _ _ _ _)
      | (with_reducible exact blocks_Moves.mono _ _ _ _)
      | (with_reducible exact blocks_Split.mono _ _ _)
      | (with_reducible exact blocks_Valid.mono _ _ _ _)
      | (with_reducible exact ferrulelaw13_ints.mono _ _ _)
      | (with_reducible exact ferruleref13_Fits.mono _ _)
      | (with_reducible exact ferruleref13_Inside.mono _ _ _)
      | (with_reducible exact ferruleref13_Moves.mono _ _ _ _)
      | (with_reducible exact ferruleref13_Split.mono _ _ _)
      | (with_reducible exact ferruleref13_Valid.mono _ _ _ _)
      | (with_reducible exact ferruleref9_Same.mono _ _ _)
      | (with_reducible exact LeO.refl _)
      | (with_reducible exact LeO.none _)
      | (with_reducible refine LeO.ite ?_ ?_)
      | (with_reducible refine LeO.bind ?_ (fun _ => ?_))
      | exact ih0 _ _ _ _ _ _ _ _ _ _ _
      | exact ih1 _ _ _ _ _ _ _ _ _ _ _ _
      | exact ih2 _ _ _ _ _ _ _ _
      | exact ih3 _ _ _ _ _ _ _ _
      | exact ih4 _ _ _ _ _ _ _ _ _
      | exact ih5 _ _ _ _ _ _
      | exact ih6 _ _ _ _ _ _
      | exact blocks_Moves.mono _ _ _ _
      | exact blocks_Split.mono _ _ _
      | exact blocks_Valid.mono _ _ _ _
      | exact ferrulelaw13_ints.mono _ _ _
      | exact ferruleref13_Fits.mono _ _
      | exact ferruleref13_Inside.mono _ _ _
      | exact ferruleref13_Moves.mono _ _ _ _
      | exact ferruleref13_Split.mono _ _ _
      | exact ferruleref13_Valid.mono _ _ _ _
      | exact ferruleref9_Same.mono _ _ _
      | exact LeO.none _
      | refine LeO.ite ?_ ?_
      | refine LeO.bind ?_ (fun _ => ?_)
    · intro y0 y1 y2 y3 y4 y5
      unfold ferrulelaw13_tells.j6
      repeat' first
      | (with_reducible exact ih0 _ _ _ _ _ _ _ _ _ _ _)
      | (with_reducible exact ih1 _ _ _ _ _ _ _ _ _ _ _ _)
      | (with_reducible exact ih2 _ _ _ _ _ _ _ _)
      | (with_reducible exact ih3 _ _ _ _ _ _ _ _)
      | (with_reducible exact ih4 _ _ _ _ _ _ _ _ _)
      | (with_reducible exact ih5 _ _ _ _ _ _)
      | (with_reducible exact ih6 _ _ _ _ _ _)
      | (with_reducible exact blocks_Moves.mono _ _ _ _)
      | (with_reducible exact blocks_Split.mono _ _ _)
      | (with_reducible exact blocks_Valid.mono _ _ _ _)
      | (with_reducible exact ferrulelaw13_ints.mono _ _ _)
      | (with_reducible exact ferruleref13_Fits.mono _ _)
      | (with_reducible exact ferruleref13_Inside.mono _ _ _)
      | (with_reducible exact ferruleref13_Moves.mono _ _ _ _)
      | (with_reducible exact ferruleref13_Split.mono _ _ _)
      | (with_reducible exact ferruleref13_Valid.mono _ _ _ _)
      | (with_reducible exact ferruleref9_Same.mono _ _ _)
      | (with_reducible exact LeO.refl _)
      | (with_reducible exact LeO.none _)
      | (with_reducible refine LeO.ite ?_ ?_)
      | (with_reducible refine LeO.bind ?_ (fun _ => ?_))
      | exact ih0 _ _ _ _ _ _ _ _ _ _ _
      | exact ih1 _ _ _ _ _ _ _ _ _ _ _ _
      | exact ih2 _ _ _ _ _ _ _ _
      | exact ih3 _ _ _ _ _ _ _ _
      | exact ih4 _ _ _ _ _ _ _ _ _
      | exact ih5 _ _ _ _ _ _
      | exact ih6 _ _ _ _ _ _
      | exact blocks_Moves.mono _ _ _ _
      | exact blocks_Split.mono _ _ _
      | exact blocks_Valid.mono _ _ _ _
      | exact ferrulelaw13_ints.mono _ _ _
      | exact ferruleref13_Fits.mono _ _
      | exact ferruleref13_Inside.mono _ _ _
      | exact ferruleref13_Moves.mono _ _ _ _
      | exact ferruleref13_Split.mono _ _ _
      | exact ferruleref13_Valid.mono _ _ _ _
      | exact ferruleref9_Same.mono _ _ _
      | exact LeO.none _
      | refine LeO.ite ?_ ?_
      | refine LeO.bind ?_ (fun _ => ?_)
theorem ferrulelaw13_tells.mono : ∀ a0 a1 a2 a3 k, LeO (ferrulelaw13_tells.f k a0 a1 a2 a3) (ferrulelaw13_tells.f (k + 1) a0 a1 a2 a3) := by
  intro a0 a1 a2 a3 k
  obtain ⟨ih0, ih1, ih2, ih3, ih4, ih5, ih6⟩ := ferrulelaw13_tells.mono_l k
  unfold ferrulelaw13_tells.f
  repeat' first
      | (with_reducible exact ih0 _ _ _ _ _ _ _ _ _ _ _)
      | (with_reducible exact ih1 _ _ _ _ _ _ _ _ _ _ _ _)
      | (with_reducible exact ih2 _ _ _ _ _ _ _ _)
      | (with_reducible exact ih3 _ _ _ _ _ _ _ _)
      | (with_reducible exact ih4 _ _ _ _ _ _ _ _ _)
      | (with_reducible exact ih5 _ _ _ _ _ _)
      | (with_reducible exact ih6 _ _ _ _ _ _)
      | (with_reducible exact blocks_Moves.mono _ _ _ _)
      | (with_reducible exact blocks_Split.mono _ _ _)
      | (with_reducible exact blocks_Valid.mono _ _ _ _)
      | (with_reducible exact ferrulelaw13_ints.mono _ _ _)
      | (with_reducible exact ferruleref13_Fits.mono _ _)
      | (with_reducible exact ferruleref13_Inside.mono _ _ _)
      | (with_reducible exact ferruleref13_Moves.mono _ _ _ _)
      | (with_reducible exact ferruleref13_Split.mono _ _ _)
      | (with_reducible exact ferruleref13_Valid.mono _ _ _ _)
      | (with_reducible exact ferruleref9_Same.mono _ _ _)
      | (with_reducible exact LeO.refl _)
      | (with_reducible exact LeO.none _)
      | (with_reducible refine LeO.ite ?_ ?_)
      | (with_reducible refine LeO.bind ?_ (fun _ => ?_))
      | exact ih0 _ _ _ _ _ _ _ _ _ _ _
      | exact ih1 _ _ _ _ _ _ _ _ _ _ _ _
      | exact ih2 _ _ _ _ _ _ _ _
      | exact ih3 _ _ _ _ _ _ _ _
      | exact ih4 _ _ _ _ _ _ _ _ _
      | exact ih5 _ _ _ _ _ _
      | exact ih6 _ _ _ _ _ _
      | exact blocks_Moves.mono _ _ _ _
      | exact blocks_Split.mono _ _ _
      | exact blocks_Valid.mono _ _ _ _
      | exact ferrulelaw13_ints.mono _ _ _
      | exact ferruleref13_Fits.mono _ _
      | exact ferruleref13_Inside.mono _ _ _
      | exact ferruleref13_Moves.mono _ _ _ _
      | exact ferruleref13_Split.mono _ _ _
      | exact ferruleref13_Valid.mono _ _ _ _
      | exact ferruleref9_Same.mono _ _ _
      | exact LeO.none _
      | refine LeO.ite ?_ ?_
      | refine LeO.bind ?_ (fun _ => ?_)
set_option maxHeartbeats 8000000 in
set_option maxRecDepth 100000 in
theorem ferrulelaw13_tells.calls (k : Nat) (A0 : Option Addr) (c0 : Nat) (l0 : List (S35)) (a1 : Int) (a2 : Int) (a3 : Int) (r : Bool) (w : World) (hr0 : Kd.C k35 w A0 l0.length l0) (hc0 : l0.length ≤ c0) (h : ferrulelaw13_tells.f k l0 a1 a2 a3 = some r) :
    Calls Try.prog 13 #[.slice A0 l0.length c0, .int .i64 a1, .int .i64 a2, .int .i64 a3] w fun e w' => e = .returned (.bool r) ∧ Below w.heap.size w w' := by
  have hu35 := Try.underlying35
  have HR0 := Aside0.mk hr0
  have HC0 := Aside0.mk hc0
  clear hr0 hc0
  have HB := Aside0.mk (Below.refl w.heap.size w)
  have H : ((some (([] : List (S35)) : List (S35))).bind fun y233 => (if y233.length + l0.length < 5864062014805 then ((some (y233 ++ l0 : List (S35))).bind fun y236 => (if y236.length < 5864062014805 then ((some (y236 ++ [(⟨9, 0, 0⟩ : S35)] : List (S35))).bind fun y239 => (if 0 ≤ (l0.length : Int) then (if (l0.length : Int) ≤ (y239.length : Int) then ((some (y239.take ((l0.length : Int) : Int).toNat : List (S35))).bind fun y242 => ((blocks_Valid.f k y242 a1 a2).bind fun bt246 => ((blocks_Split.f k y242 a2).bind fun bt250 => ((blocks_Moves.f k y242 a3 a2).bind fun bt254 => ((ferruleref9_Same.f k y242 l0).bind fun t258 => (if t258 = true then (if a2 ≥ 1 then (if a2 ≤ 32 then ((ferruleref13_Fits.f k l0).bind fun t259 => (ferrulelaw13_tells.j0 k l0 a1 a2 a3 bt246.1 bt246.2 bt250.1 bt250.2 bt254.1 bt254.2 t259)) else (ferrulelaw13_tells.j0 k l0 a1 a2 a3 bt246.1 bt246.2 bt250.1 bt250.2 bt254.1 bt254.2 false)) else (ferrulelaw13_tells.j0 k l0 a1 a2 a3 bt246.1 bt246.2 bt250.1 bt250.2 bt254.1 bt254.2 false)) else (some false))))))) else (none)) else (none))) else (none))) else (none))) = some r := h
  clear h
  obtain ⟨y233, hy233⟩ : ∃ y_ : List (S35), y_ = (([] : List (S35))) := ⟨_, rfl⟩
  replace H : (if y233.length + l0.length < 5864062014805 then ((some (y233 ++ l0 : List (S35))).bind fun y236 => (if y236.length < 5864062014805 then ((some (y236 ++ [(⟨9, 0, 0⟩ : S35)] : List (S35))).bind fun y239 => (if 0 ≤ (l0.length : Int) then (if (l0.length : Int) ≤ (y239.length : Int) then ((some (y239.take ((l0.length : Int) : Int).toNat : List (S35))).bind fun y242 => ((blocks_Valid.f k y242 a1 a2).bind fun bt246 => ((blocks_Split.f k y242 a2).bind fun bt250 => ((blocks_Moves.f k y242 a3 a2).bind fun bt254 => ((ferruleref9_Same.f k y242 l0).bind fun t258 => (if t258 = true then (if a2 ≥ 1 then (if a2 ≤ 32 then ((ferruleref13_Fits.f k l0).bind fun t259 => (ferrulelaw13_tells.j0 k l0 a1 a2 a3 bt246.1 bt246.2 bt250.1 bt250.2 bt254.1 bt254.2 t259)) else (ferrulelaw13_tells.j0 k l0 a1 a2 a3 bt246.1 bt246.2 bt250.1 bt250.2 bt254.1 bt254.2 false)) else (ferrulelaw13_tells.j0 k l0 a1 a2 a3 bt246.1 bt246.2 bt250.1 bt250.2 bt254.1 bt254.2 false)) else (some false))))))) else (none)) else (none))) else (none))) else (none)) = some r := by first | (rw [hy233]; with_reducible exact H) | (have H2_ := (Option.bind_some _ _).symm.trans H; rw [hy233]; with_reducible exact H2_) | (have H2_ := (Option.bind_some _ _).symm.trans H; with_reducible exact H2_) | with_reducible exact H | (rw [hy233]; exact H) | exact H
  have Ny233 := Aside0.mk hy233
  clear hy233
  by_cases c5 : y233.length + l0.length < 5864062014805
  · rw [if_pos c5] at H
    have LMc5 := Aside0.mk c5
    clear c5
    obtain ⟨y236, hy236⟩ : ∃ y_ : List (S35), y_ = (y233 ++ l0) := ⟨_, rfl⟩
    replace H : (if y236.length < 5864062014805 then ((some (y236 ++ [(⟨9, 0, 0⟩ : S35)] : List (S35))).bind fun y239 => (if 0 ≤ (l0.length : Int) then (if (l0.length : Int) ≤ (y239.length : Int) then ((some (y239.take ((l0.length : Int) : Int).toNat : List (S35))).bind fun y242 => ((blocks_Valid.f k y242 a1 a2).bind fun bt246 => ((blocks_Split.f k y242 a2).bind fun bt250 => ((blocks_Moves.f k y242 a3 a2).bind fun bt254 => ((ferruleref9_Same.f k y242 l0).bind fun t258 => (if t258 = true then (if a2 ≥ 1 then (if a2 ≤ 32 then ((ferruleref13_Fits.f k l0).bind fun t259 => (ferrulelaw13_tells.j0 k l0 a1 a2 a3 bt246.1 bt246.2 bt250.1 bt250.2 bt254.1 bt254.2 t259)) else (ferrulelaw13_tells.j0 k l0 a1 a2 a3 bt246.1 bt246.2 bt250.1 bt250.2 bt254.1 bt254.2 false)) else (ferrulelaw13_tells.j0 k l0 a1 a2 a3 bt246.1 bt246.2 bt250.1 bt250.2 bt254.1 bt254.2 false)) else (some false))))))) else (none)) else (none))) else (none)) = some r := by first | (rw [hy236]; with_reducible exact H) | (have H2_ := (Option.bind_some _ _).symm.trans H; rw [hy236]; with_reducible exact H2_) | (have H2_ := (Option.bind_some _ _).symm.trans H; with_reducible exact H2_) | with_reducible exact H | (rw [hy236]; exact H) | exact H
    have Ny236 := Aside0.mk hy236
    clear hy236
    by_cases c6 : y236.length < 5864062014805
    · rw [if_pos c6] at H
      have LMc6 := Aside0.mk c6
      clear c6
      obtain ⟨y239, hy239⟩ : ∃ y_ : List (S35), y_ = (y236 ++ [(⟨9, 0, 0⟩ : S35)]) := ⟨_, rfl⟩
      replace H : (if 0 ≤ (l0.length : Int) then (if (l0.length : Int) ≤ (y239.length : Int) then ((some (y239.take ((l0.length : Int) : Int).toNat : List (S35))).bind fun y242 => ((blocks_Valid.f k y242 a1 a2).bind fun bt246 => ((blocks_Split.f k y242 a2).bind fun bt250 => ((blocks_Moves.f k y242 a3 a2).bind fun bt254 => ((ferruleref9_Same.f k y242 l0).bind fun t258 => (if t258 = true then (if a2 ≥ 1 then (if a2 ≤ 32 then ((ferruleref13_Fits.f k l0).bind fun t259 => (ferrulelaw13_tells.j0 k l0 a1 a2 a3 bt246.1 bt246.2 bt250.1 bt250.2 bt254.1 bt254.2 t259)) else (ferrulelaw13_tells.j0 k l0 a1 a2 a3 bt246.1 bt246.2 bt250.1 bt250.2 bt254.1 bt254.2 false)) else (ferrulelaw13_tells.j0 k l0 a1 a2 a3 bt246.1 bt246.2 bt250.1 bt250.2 bt254.1 bt254.2 false)) else (some false))))))) else (none)) else (none)) = some r := by first | (rw [hy239]; with_reducible exact H) | (have H2_ := (Option.bind_some _ _).symm.trans H; rw [hy239]; with_reducible exact H2_) | (have H2_ := (Option.bind_some _ _).symm.trans H; with_reducible exact H2_) | with_reducible exact H | (rw [hy239]; exact H) | exact H
      have Ny239 := Aside0.mk hy239
      clear hy239
      by_cases c7 : 0 ≤ (l0.length : Int)
      · rw [if_pos c7] at H
        have c7b0 := eq_true c7
        have c7b1 : decide (0 ≤ (l0.length : Int)) = true := decide_eq_true c7
        clear c7
        by_cases c8 : (l0.length : Int) ≤ (y239.length : Int)
        · rw [if_pos c8] at H
          have c8b0 := eq_true c8
          have c8b1 : decide ((l0.length : Int) ≤ (y239.length : Int)) = true := decide_eq_true c8
          clear c8
          obtain ⟨y242, hy242⟩ : ∃ y_ : List (S35), y_ = (y239.take ((l0.length : Int) : Int).toNat) := ⟨_, rfl⟩
          replace H : ((blocks_Valid.f k y242 a1 a2).bind fun bt246 => ((blocks_Split.f k y242 a2).bind fun bt250 => ((blocks_Moves.f k y242 a3 a2).bind fun bt254 => ((ferruleref9_Same.f k y242 l0).bind fun t258 => (if t258 = true then (if a2 ≥ 1 then (if a2 ≤ 32 then ((ferruleref13_Fits.f k l0).bind fun t259 => (ferrulelaw13_tells.j0 k l0 a1 a2 a3 bt246.1 bt246.2 bt250.1 bt250.2 bt254.1 bt254.2 t259)) else (ferrulelaw13_tells.j0 k l0 a1 a2 a3 bt246.1 bt246.2 bt250.1 bt250.2 bt254.1 bt254.2 false)) else (ferrulelaw13_tells.j0 k l0 a1 a2 a3 bt246.1 bt246.2 bt250.1 bt250.2 bt254.1 bt254.2 false)) else (some false)))))) = some r := by first | (rw [hy242]; with_reducible exact H) | (have H2_ := (Option.bind_some _ _).symm.trans H; rw [hy242]; with_reducible exact H2_) | (have H2_ := (Option.bind_some _ _).symm.trans H; with_reducible exact H2_) | with_reducible exact H | (rw [hy242]; exact H) | exact H
          have Ny242 := Aside0.mk hy242
          clear hy242
          replace H := Option.bind_eq_some_iff.mp H
          obtain ⟨⟨t246, t247⟩, A90, H⟩ := H
          replace H : ((blocks_Split.f k y242 a2).bind fun bt250 => ((blocks_Moves.f k y242 a3 a2).bind fun bt254 => ((ferruleref9_Same.f k y242 l0).bind fun t258 => (if t258 = true then (if a2 ≥ 1 then (if a2 ≤ 32 then ((ferruleref13_Fits.f k l0).bind fun t259 => (ferrulelaw13_tells.j0 k l0 a1 a2 a3 t246 t247 bt250.1 bt250.2 bt254.1 bt254.2 t259)) else (ferrulelaw13_tells.j0 k l0 a1 a2 a3 t246 t247 bt250.1 bt250.2 bt254.1 bt254.2 false)) else (ferrulelaw13_tells.j0 k l0 a1 a2 a3 t246 t247 bt250.1 bt250.2 bt254.1 bt254.2 false)) else (some false))))) = some r := H
          have A9 := Aside0.mk A90
          clear A90
          replace H := Option.bind_eq_some_iff.mp H
          obtain ⟨⟨t250, t251⟩, A100, H⟩ := H
          replace H : ((blocks_Moves.f k y242 a3 a2).bind fun bt254 => ((ferruleref9_Same.f k y242 l0).bind fun t258 => (if t258 = true then (if a2 ≥ 1 then (if a2 ≤ 32 then ((ferruleref13_Fits.f k l0).bind fun t259 => (ferrulelaw13_tells.j0 k l0 a1 a2 a3 t246 t247 t250 t251 bt254.1 bt254.2 t259)) else (ferrulelaw13_tells.j0 k l0 a1 a2 a3 t246 t247 t250 t251 bt254.1 bt254.2 false)) else (ferrulelaw13_tells.j0 k l0 a1 a2 a3 t246 t247 t250 t251 bt254.1 bt254.2 false)) else (some false)))) = some r := H
          have A10 := Aside0.mk A100
          clear A100
          replace H := Option.bind_eq_some_iff.mp H
          obtain ⟨⟨t254, t255⟩, A110, H⟩ := H
          replace H : ((ferruleref9_Same.f k y242 l0).bind fun t258 => (if t258 = true then (if a2 ≥ 1 then (if a2 ≤ 32 then ((ferruleref13_Fits.f k l0).bind fun t259 => (ferrulelaw13_tells.j0 k l0 a1 a2 a3 t246 t247 t250 t251 t254 t255 t259)) else (ferrulelaw13_tells.j0 k l0 a1 a2 a3 t246 t247 t250 t251 t254 t255 false)) else (ferrulelaw13_tells.j0 k l0 a1 a2 a3 t246 t247 t250 t251 t254 t255 false)) else (some false))) = some r := H
          have A11 := Aside0.mk A110
          clear A110
          replace H := Option.bind_eq_some_iff.mp H
          obtain ⟨t258, A120, H⟩ := H
          replace H : (if t258 = true then (if a2 ≥ 1 then (if a2 ≤ 32 then ((ferruleref13_Fits.f k l0).bind fun t259 => (ferrulelaw13_tells.j0 k l0 a1 a2 a3 t246 t247 t250 t251 t254 t255 t259)) else (ferrulelaw13_tells.j0 k l0 a1 a2 a3 t246 t247 t250 t251 t254 t255 false)) else (ferrulelaw13_tells.j0 k l0 a1 a2 a3 t246 t247 t250 t251 t254 t255 false)) else (some false)) = some r := H
          have A12 := Aside0.mk A120
          clear A120
          by_cases c13 : t258 = true
          · subst c13
            have H1 : (if a2 ≥ 1 then (if a2 ≤ 32 then ((ferruleref13_Fits.f k l0).bind fun t259 => (ferrulelaw13_tells.j0 k l0 a1 a2 a3 t246 t247 t250 t251 t254 t255 t259)) else (ferrulelaw13_tells.j0 k l0 a1 a2 a3 t246 t247 t250 t251 t254 t255 false)) else (ferrulelaw13_tells.j0 k l0 a1 a2 a3 t246 t247 t250 t251 t254 t255 false)) = some r := by rw [if_pos rfl] at H; exact H
            clear H
            have H := H1
            clear H1
            have HC14 := Aside0.mk H
            clear H
            go_enter Try.func13, Try.ntmps13
            go_upto_region 7 with (first | ((with_reducible refine gate_dst (N := 18) rfl ?_); (try (refine gate_guard (by rfl) ?_; dsimp only)); refine Kd.R_lit k35 _ 35 ?hg (N := 18) ?hd (xs := ([] : List (S35))) (inner := []) (ok := fun _ => True) (okp := fun _ => True) ?hr ?hp (fun _ hk => hk) trivial (Below.refl _ _) (Nat.le_refl _) (by simp) ?_; (case hd => rfl); (case hg => rfl); (case hr => first | (go_simp; done) | (go_simp; rfl)); (case hp => exact (Reps.none _ _)); intro v234 w15 ho16 hb hg_ hnew_; clear hg_ hnew_; (first | rw [← Ny233.out] at ho16 | (simp only [Int.reduceToNat] at ho16; rw [← Ny233.out] at ho16)); have n0_ := Aside0.mk (Kd.R_lower ho16 (below_size (by repeat (first | (with_reducible first | exact HB.out | apply below_alloc | apply pw_below_drewN | apply below_drew1) | exact HB.out)))); have n1_ := Aside0.mk (below_step (by repeat (first | (with_reducible first | exact HB.out | apply below_alloc | apply pw_below_drewN | apply below_drew1) | exact HB.out)) hb); clear HB; have HO235 := n0_; have HB := n1_; clear n0_ n1_; clear hb ho16) | ((with_reducible refine gate_builtin (b := .append) (xs := #[.tmp 18, .tmp 19]) rfl ?_); (try (refine gate_guard (by rfl) ?_; dsimp only)); at_builtin; refine Kd.R_append_rows k35 (w0 := w) w.heap.size rfl (.tmp 18) (.tmp 19) 27 35 (.agg #[(.int .i64 0), (.int .i64 0), (.int .i64 0)]) 24 rfl Try.underlying27 info35 rfl (by decide) (by omega) v234 y233 l0 _ _ _ (fun _ => True) (fun _ => False) rfl rfl ?aO ?aR (fun _ _ h => h) (fun _ h => h.elim) ?aF ?aB ?aS ?aL ?_; (case aR => repeat (first | exact (Kd.C_below HR0.out HB.out) | (with_reducible refine Kd.C_alloc ?_ _) | (with_reducible refine Kd.C_drewN ?_ _) | (with_reducible refine Kd.C_drew ?_))); (case aB => exact (by repeat (first | (with_reducible first | exact HB.out | apply below_alloc | apply pw_below_drewN | apply below_drew1) | exact HB.out))); (case aF => exact (fun _ _ => trivial)); (case aO => exact (by (with_reducible repeat (first | apply Kd.R_alloc | apply Kd.R_drewN | apply Kd.R_drew)); exact HO235.out)); (case aS => exact (below_size (by repeat (first | (with_reducible first | exact HB.out | apply below_alloc | apply pw_below_drewN | apply below_drew1) | exact HB.out)))); (case aL => have := LMc5.out; omega); intro v237 w17 ho hb hg hat; rw [← Ny236.out] at ho; have n0_ := Aside0.mk (hb); have n1_ := Aside0.mk (ho); clear HB; clear HO235; have HB := n0_; have HO238 := n1_; clear n0_ n1_; clear ho hb hg hat) | ((with_reducible refine gate_builtin (b := .append) (xs := #[.tmp 20, .tmp 22]) rfl ?_); (try (refine gate_guard (by rfl) ?_; dsimp only)); at_builtin; refine Kd.R_append k35 (w0 := w) w.heap.size rfl (.tmp 20) (.tmp 22) 27 35 (.agg #[(.int .i64 0), (.int .i64 0), (.int .i64 0)]) 24 rfl Try.underlying27 info35 rfl (by decide) (by omega) v237 y236 (⟨9, 0, 0⟩ : S35) [.int .i64 9, .int .i64 0, .int .i64 0] (fun _ => True) (fun _ => False) rfl rfl ?aP (fun _ hk => hk.elim) ?aF ?aO ?aB ?aS ?aL ?_; (case aP => exact k35_mkM _ _ _ (⟨9, 0, 0⟩ : S35)); (case aB => exact (by repeat (first | (with_reducible first | exact HB.out | apply below_alloc | apply pw_below_drewN | apply below_drew1) | exact HB.out))); (case aF => exact (fun _ _ => trivial)); (case aO => exact (by (with_reducible repeat (first | apply Kd.R_alloc | apply Kd.R_drewN | apply Kd.R_drew)); exact HO238.out)); (case aS => exact (below_size (by repeat (first | (with_reducible first | exact HB.out | apply below_alloc | apply pw_below_drewN | apply below_drew1) | exact HB.out)))); (case aL => have := LMc6.out; omega); intro v240 w18 ho hb hg hat; rw [← Ny239.out] at ho; have n0_ := Aside0.mk (hb); have n1_ := Aside0.mk (ho); clear HB; clear HO238; have HB := n0_; have HO241 := n1_; clear n0_ n1_; clear ho hb hg hat; obtain ⟨Ao20, co20, eo20⟩ := Kd.R_slice HO241.out; subst eo20; have q19 : ((l0.length : Int) : Int) ≤ ((y239.length : Int) : Int) := of_decide_eq_true (by first | (with_reducible assumption) | assumption); obtain ⟨i019, hi019, _, hsz19, _⟩ := info_parts info35; have hroom19 : y239.length ≤ co20 := (Kd.R_reads' HO241.out).2.1; have hC19 : Kd.C k35 _ Ao20 y239.length y239 := (Kd.R_reads' HO241.out).2.2; have hcut19 := cut_to (P := Try.prog) 27 35 .i64 Try.underlying27 hi019 Ao20 y239.length co20 (l0.length : Int) (of_decide_eq_true (by first | (with_reducible assumption) | assumption)) q19 hroom19; have hr19 := Kd.C_take (m := ((l0.length : Int) : Int).toNat) hC19 (by omega); have hy19 : y242.length = ((l0.length : Int) : Int).toNat := (by rw [Ny242.out, List.length_take]; omega); rw [← Ny242.out] at hr19; rw [← hy19] at hcut19; have HR245 := Aside0.mk hr19; have HC245 := Aside0.mk (show y242.length ≤ co20 from by omega); clear hr19 hC19 hroom19 hi019 hsz19; have KY19 := Aside0.mk hy19; clear hy19; have KL19 := Aside0.mk (show ((l0.length : Int) : Int).toNat ≤ y239.length from by omega); replace q19 := eq_true q19) | ((with_reducible refine gate_callee (f := 9) rfl ?_); refine goesL_ (some 31) rfl rfl Try.func9 (by kernel_rfl) rfl #[.slice Ao20 y242.length co20, .int .i64 a1, .int .i64 a2] rfl (by (try simp only [List.map_toArray, List.map_cons, List.map_nil]); first | done | rfl | (simp only [List.length_drop, List.length_take]; rfl)) ?_; (with_reducible refine (blocks_Valid.calls k _ _ y242 a1 a2 t246 t247 _ ?side1 ?side2 A9.out).mono ?_); (case side1 => repeat (first | exact (by repeat (first | (with_reducible exact HR245.out) | (with_reducible refine Kd.C_alloc ?_ _) | (with_reducible refine Kd.C_drewN ?_ _) | (with_reducible refine Kd.C_drew ?_) | exact HR245.out)) | (with_reducible refine Kd.C_alloc ?_ _) | (with_reducible refine Kd.C_drewN ?_ _) | (with_reducible refine Kd.C_drew ?_))); (case side2 => exact HC245.out); rintro e w21 ⟨v248, rfl, ho0, hb⟩; refine ⟨_, rfl, ?_⟩; have n0_ := Aside0.mk (Kd.R_below (by (with_reducible repeat (first | apply Kd.R_alloc | apply Kd.R_drewN | apply Kd.R_drew)); exact HO241.out) hb); have n1_ := Aside0.mk (Kd.R_lower ho0 (below_size (by repeat (first | (with_reducible first | exact HB.out | apply below_alloc | apply pw_below_drewN | apply below_drew1) | exact HB.out)))); have n2_ := Aside0.mk (Kd.C_below (by repeat (first | (with_reducible exact HR245.out) | (with_reducible refine Kd.C_alloc ?_ _) | (with_reducible refine Kd.C_drewN ?_ _) | (with_reducible refine Kd.C_drew ?_) | exact HR245.out)) hb); have n3_ := Aside0.mk (below_step (by repeat (first | (with_reducible first | exact HB.out | apply below_alloc | apply pw_below_drewN | apply below_drew1) | exact HB.out)) hb); clear HO241; clear HR245; clear HB; have HO241 := n0_; have HO249 := n1_; have HR245 := n2_; have HB := n3_; clear n0_ n1_ n2_ n3_; (try clear hb); (try clear hb2); (try clear hk); (try clear hi); (try clear ho0)) | ((with_reducible refine gate_callee (f := 19) rfl ?_); refine goesL_ (some 37) rfl rfl Try.func19 (by kernel_rfl) rfl #[.slice Ao20 y242.length co20, .int .i64 a2] rfl (by (try simp only [List.map_toArray, List.map_cons, List.map_nil]); first | done | rfl | (simp only [List.length_drop, List.length_take]; rfl)) ?_; (with_reducible refine (blocks_Split.calls k _ _ y242 a2 t250 t251 _ ?side1 ?side2 A10.out).mono ?_); (case side1 => repeat (first | exact (by repeat (first | (with_reducible exact HR245.out) | (with_reducible refine Kd.C_alloc ?_ _) | (with_reducible refine Kd.C_drewN ?_ _) | (with_reducible refine Kd.C_drew ?_) | exact HR245.out)) | (with_reducible refine Kd.C_alloc ?_ _) | (with_reducible refine Kd.C_drewN ?_ _) | (with_reducible refine Kd.C_drew ?_))); (case side2 => exact HC245.out); rintro e w22 ⟨v252, rfl, ho0, hb⟩; refine ⟨_, rfl, ?_⟩; have n0_ := Aside0.mk (Kd.R_elder' (by (with_reducible repeat (first | apply Kd.R_alloc | apply Kd.R_drewN | apply Kd.R_drew)); exact HO241.out) (Kd.R_base ho0) hb); have n1_ := Aside0.mk (Kd.R_below (by (with_reducible repeat (first | apply Kd.R_alloc | apply Kd.R_drewN | apply Kd.R_drew)); exact HO249.out) hb); have n2_ := Aside0.mk (Kd.R_lower (Kd.R_new' ho0 (Kd.R_lt (by (with_reducible repeat (first | apply Kd.R_alloc | apply Kd.R_drewN | apply Kd.R_drew)); exact HO241.out))) (below_size (by repeat (first | (with_reducible first | exact HB.out | apply below_alloc | apply pw_below_drewN | apply below_drew1) | exact HB.out)))); have n3_ := Aside0.mk (Kd.C_below (by repeat (first | (with_reducible exact HR245.out) | (with_reducible refine Kd.C_alloc ?_ _) | (with_reducible refine Kd.C_drewN ?_ _) | (with_reducible refine Kd.C_drew ?_) | exact HR245.out)) hb); have n4_ := Aside0.mk (below_step (by repeat (first | (with_reducible first | exact HB.out | apply below_alloc | apply pw_below_drewN | apply below_drew1) | exact HB.out)) hb); clear HO241; clear HO249; clear HR245; clear HB; have HO241 := n0_; have HO249 := n1_; have HO253 := n2_; have HR245 := n3_; have HB := n4_; clear n0_ n1_ n2_ n3_ n4_; (try clear hb); (try clear hb2); (try clear hk); (try clear hi); (try clear ho0)) | ((with_reducible refine gate_callee (f := 11) rfl ?_); refine goesL_ (some 44) rfl rfl Try.func11 (by kernel_rfl) rfl #[.slice Ao20 y242.length co20, .int .i64 a3, .int .i64 a2] rfl (by (try simp only [List.map_toArray, List.map_cons, List.map_nil]); first | done | rfl | (simp only [List.length_drop, List.length_take]; rfl)) ?_; (with_reducible refine (blocks_Moves.calls k _ _ y242 a3 a2 t254 t255 _ ?side1 ?side2 A11.out).mono ?_); (case side1 => repeat (first | exact (by repeat (first | (with_reducible exact HR245.out) | (with_reducible refine Kd.C_alloc ?_ _) | (with_reducible refine Kd.C_drewN ?_ _) | (with_reducible refine Kd.C_drew ?_) | exact HR245.out)) | (with_reducible refine Kd.C_alloc ?_ _) | (with_reducible refine Kd.C_drewN ?_ _) | (with_reducible refine Kd.C_drew ?_))); (case side2 => exact HC245.out); rintro e w23 ⟨v256, rfl, ho0, hb⟩; refine ⟨_, rfl, ?_⟩; have n0_ := Aside0.mk (Kd.R_elder' (by (with_reducible repeat (first | apply Kd.R_alloc | apply Kd.R_drewN | apply Kd.R_drew)); exact HO241.out) (Kd.R_base ho0) hb); have n1_ := Aside0.mk (Kd.R_below (by (with_reducible repeat (first | apply Kd.R_alloc | apply Kd.R_drewN | apply Kd.R_drew)); exact HO249.out) hb); have n2_ := Aside0.mk (Kd.R_elder' (by (with_reducible repeat (first | apply Kd.R_alloc | apply Kd.R_drewN | apply Kd.R_drew)); exact HO253.out) (Kd.R_base ho0) hb); have n3_ := Aside0.mk (Kd.R_lower (Kd.R_new' (Kd.R_new' ho0 (Kd.R_lt (by (with_reducible repeat (first | apply Kd.R_alloc | apply Kd.R_drewN | apply Kd.R_drew)); exact HO241.out))) (Kd.R_lt (by (with_reducible repeat (first | apply Kd.R_alloc | apply Kd.R_drewN | apply Kd.R_drew)); exact HO253.out))) (below_size (by repeat (first | (with_reducible first | exact HB.out | apply below_alloc | apply pw_below_drewN | apply below_drew1) | exact HB.out)))); have n4_ := Aside0.mk (Kd.C_below (by repeat (first | (with_reducible exact HR245.out) | (with_reducible refine Kd.C_alloc ?_ _) | (with_reducible refine Kd.C_drewN ?_ _) | (with_reducible refine Kd.C_drew ?_) | exact HR245.out)) hb); have n5_ := Aside0.mk (below_step (by repeat (first | (with_reducible first | exact HB.out | apply below_alloc | apply pw_below_drewN | apply below_drew1) | exact HB.out)) hb); clear HO241; clear HO249; clear HO253; clear HR245; clear HB; have HO241 := n0_; have HO249 := n1_; have HO253 := n2_; have HO257 := n3_; have HR245 := n4_; have HB := n5_; clear n0_ n1_ n2_ n3_ n4_ n5_; (try clear hb); (try clear hb2); (try clear hk); (try clear hi); (try clear ho0)) | ((with_reducible refine gate_callee (f := 16) rfl ?_); refine goesL_ (some 49) rfl rfl Try.func16 (by kernel_rfl) rfl #[.slice Ao20 y242.length co20, .slice A0 l0.length c0] rfl (by (try simp only [List.map_toArray, List.map_cons, List.map_nil]); first | done | rfl | (simp only [List.length_drop, List.length_take]; rfl)) ?_; (with_reducible refine (ferruleref9_Same.calls k _ _ y242 _ _ l0 true _ ?side1 ?side2 ?side3 ?side4 A12.out).mono ?_); (case side1 => repeat (first | exact (by repeat (first | (with_reducible exact HR245.out) | (with_reducible refine Kd.C_alloc ?_ _) | (with_reducible refine Kd.C_drewN ?_ _) | (with_reducible refine Kd.C_drew ?_) | exact HR245.out)) | (with_reducible refine Kd.C_alloc ?_ _) | (with_reducible refine Kd.C_drewN ?_ _) | (with_reducible refine Kd.C_drew ?_))); (case side2 => exact HC245.out); (case side3 => repeat (first | exact (Kd.C_below HR0.out HB.out) | (with_reducible refine Kd.C_alloc ?_ _) | (with_reducible refine Kd.C_drewN ?_ _) | (with_reducible refine Kd.C_drew ?_))); (case side4 => exact HC0.out); rintro e w' ⟨rfl, ⟨nd, rfl⟩⟩; refine ⟨_, rfl, ?_⟩))
            (try simp only [Act.put, List.setIfInBounds_toArray, List.set_cons_zero, List.set_cons_succ])
            go_cut [16] (fun v16 wc => ∃ (kq : Nat) (x16_13 : Bool), v16 = .bool x16_13 ∧ Aside0 (ferrulelaw13_tells.j0 kq l0 a1 a2 a3 t246 t247 t250 t251 t254 t255 x16_13 = some r) ∧ Aside0 (kq ≤ k) ∧ Aside0 (Kd.R (Kd.int .i64) 3 wc w.heap.size (fun _ => True) v248 t246) ∧ Aside0 (Kd.R k35 35 wc w.heap.size (fun k_ => some k_ ≠ (v256 : Value).ownBlock) v252 t250) ∧ Aside0 (Kd.R k35 35 wc w.heap.size (fun k_ => some k_ ≠ (v252 : Value).ownBlock) v256 t254) ∧ Aside0 (Kd.C k35 wc Ao20 y242.length y242) ∧ Aside0 (Below w.heap.size w wc))
            case first =>
              have H := HC14.out
              clear HC14
              by_cases c24 : a2 ≥ 1
              · rw [if_pos c24] at H
                have c24b0 : decide (1 ≤ a2) = true := decide_eq_true c24
                clear c24
                (first | rw [c24b0] | (simp only [i64_w, i32_w]; rw [c24b0]) | skip)
                by_cases c25 : a2 ≤ 32
                · rw [if_pos c25] at H
                  have c25b0 : decide (a2 ≤ 32) = true := decide_eq_true c25
                  clear c25
                  replace H := Option.bind_eq_some_iff.mp H
                  obtain ⟨t259, A260, H⟩ := H
                  replace H : (ferrulelaw13_tells.j0 k l0 a1 a2 a3 t246 t247 t250 t251 t254 t255 t259) = some r := H
                  have A26 := Aside0.mk A260
                  clear A260
                  have H' := Aside0.mk H
                  clear H
                  go_wp2_with (first | (go_at_call 22; (with_reducible refine (ferruleref13_Fits.calls k _ _ l0 t259 _ ?side1 ?side2 A26.out).mono ?_); (case side1 => repeat (first | exact (Kd.C_below HR0.out HB.out) | (with_reducible refine Kd.C_alloc ?_ _) | (with_reducible refine Kd.C_drewN ?_ _) | (with_reducible refine Kd.C_drew ?_))); (case side2 => exact HC0.out); rintro e w27 ⟨rfl, hb⟩; have n0_ := Aside0.mk (Kd.R_below (by (with_reducible repeat (first | apply Kd.R_alloc | apply Kd.R_drewN | apply Kd.R_drew)); exact HO241.out) hb); have n1_ := Aside0.mk (Kd.R_below (by (with_reducible repeat (first | apply Kd.R_alloc | apply Kd.R_drewN | apply Kd.R_drew)); exact HO249.out) hb); have n2_ := Aside0.mk (Kd.R_below (by (with_reducible repeat (first | apply Kd.R_alloc | apply Kd.R_drewN | apply Kd.R_drew)); exact HO253.out) hb); have n3_ := Aside0.mk (Kd.R_below (by (with_reducible repeat (first | apply Kd.R_alloc | apply Kd.R_drewN | apply Kd.R_drew)); exact HO257.out) hb); have n4_ := Aside0.mk (Kd.C_below (by repeat (first | (with_reducible exact HR245.out) | (with_reducible refine Kd.C_alloc ?_ _) | (with_reducible refine Kd.C_drewN ?_ _) | (with_reducible refine Kd.C_drew ?_) | exact HR245.out)) hb); have n5_ := Aside0.mk (below_step (by repeat (first | (with_reducible first | exact HB.out | apply below_alloc | apply pw_below_drewN | apply below_drew1) | exact HB.out)) hb); clear HO241; clear HO249; clear HO253; clear HO257; clear HR245; clear HB; have HO241 := n0_; have HO249 := n1_; have HO253 := n2_; have HO257 := n3_; have HR245 := n4_; have HB := n5_; clear n0_ n1_ n2_ n3_ n4_ n5_; (try clear hb); (try clear hb2); (try clear hk); (try clear hi)))
                  go_meet
                  case rel => exact ⟨_, (t259), (by first | rfl | (simp; done) | (simp [*]; done)), H', ⟨by first | omega | exact Nat.le_refl _⟩, ⟨by (with_reducible repeat (first | apply Kd.R_alloc | apply Kd.R_drewN | apply Kd.R_drew)); exact HO249.out⟩, ⟨by (with_reducible repeat (first | apply Kd.R_alloc | apply Kd.R_drewN | apply Kd.R_drew)); exact Kd.R_mono HO253.out (fun _ hk => hk.2)⟩, ⟨by (with_reducible repeat (first | apply Kd.R_alloc | apply Kd.R_drewN | apply Kd.R_drew)); exact Kd.R_mono HO257.out (fun _ hk => hk.2)⟩, ⟨by repeat (first | (with_reducible exact HR245.out) | (with_reducible refine Kd.C_alloc ?_ _) | (with_reducible refine Kd.C_drewN ?_ _) | (with_reducible refine Kd.C_drew ?_) | exact HR245.out)⟩, ⟨by repeat (first | (with_reducible first | exact HB.out | apply below_alloc | apply pw_below_drewN | apply below_drew1) | exact HB.out)⟩⟩
                · rw [if_neg c25] at H
                  have c25b0 : decide (a2 ≤ 32) = false := decide_eq_false c25
                  clear c25
                  have H' := Aside0.mk H
                  clear H
                  go_wp2
                  go_meet
                  case rel => exact ⟨_, (false), (by first | rfl | (simp; done) | (simp [*]; done)), H', ⟨by first | omega | exact Nat.le_refl _⟩, ⟨by (with_reducible repeat (first | apply Kd.R_alloc | apply Kd.R_drewN | apply Kd.R_drew)); exact HO249.out⟩, ⟨by (with_reducible repeat (first | apply Kd.R_alloc | apply Kd.R_drewN | apply Kd.R_drew)); exact Kd.R_mono HO253.out (fun _ hk => hk.2)⟩, ⟨by (with_reducible repeat (first | apply Kd.R_alloc | apply Kd.R_drewN | apply Kd.R_drew)); exact Kd.R_mono HO257.out (fun _ hk => hk.2)⟩, ⟨by repeat (first | (with_reducible exact HR245.out) | (with_reducible refine Kd.C_alloc ?_ _) | (with_reducible refine Kd.C_drewN ?_ _) | (with_reducible refine Kd.C_drew ?_) | exact HR245.out)⟩, ⟨by repeat (first | (with_reducible first | exact HB.out | apply below_alloc | apply pw_below_drewN | apply below_drew1) | exact HB.out)⟩⟩
              · rw [if_neg c24] at H
                have c24b0 : decide (1 ≤ a2) = false := decide_eq_false c24
                clear c24
                (first | rw [c24b0] | (simp only [i64_w, i32_w]; rw [c24b0]) | skip)
                have H' := Aside0.mk H
                clear H
                go_wp2
                go_meet
                case rel => exact ⟨_, (false), (by first | rfl | (simp; done) | (simp [*]; done)), H', ⟨by first | omega | exact Nat.le_refl _⟩, ⟨by (with_reducible repeat (first | apply Kd.R_alloc | apply Kd.R_drewN | apply Kd.R_drew)); exact HO249.out⟩, ⟨by (with_reducible repeat (first | apply Kd.R_alloc | apply Kd.R_drewN | apply Kd.R_drew)); exact Kd.R_mono HO253.out (fun _ hk => hk.2)⟩, ⟨by (with_reducible repeat (first | apply Kd.R_alloc | apply Kd.R_drewN | apply Kd.R_drew)); exact Kd.R_mono HO257.out (fun _ hk => hk.2)⟩, ⟨by repeat (first | (with_reducible exact HR245.out) | (with_reducible refine Kd.C_alloc ?_ _) | (with_reducible refine Kd.C_drewN ?_ _) | (with_reducible refine Kd.C_drew ?_) | exact HR245.out)⟩, ⟨by repeat (first | (with_reducible first | exact HB.out | apply below_alloc | apply pw_below_drewN | apply below_drew1) | exact HB.out)⟩⟩
            case rest =>
              clear HC14
              try clear c1
              try clear q1
              try clear c2
              try clear p2
              try clear c5
              try clear c6
              try clear c7
              try clear c7b0
              try clear c7b1
              try clear c8
              try clear c8b0
              try clear c8b1
              try clear c9
              try clear c11
              try clear c13
              try clear c16
              try clear c19
              try clear q19
              try clear c24
              try clear c24b0
              try clear c25
              try clear c25b0
              try clear q19
              obtain ⟨kq, x16_13, rfl, HA, HJ13, HO_10, HO_12, HO_14, HR245, HB⟩ := hcut
              cases kq with
              | zero => exact absurd HA.out (by simp [ferrulelaw13_tells.j0])
              | succ kj13 =>
                have H := HA.out
                clear HA
                simp only [ferrulelaw13_tells.j0] at H
                have HC28 := Aside0.mk H
                clear H
                go_upto_region 8 with (fail)
                go_cut [78] (fun v78 wc => ∃ (kq : Nat) (x78_27 : Bool), v78 = .bool x78_27 ∧ Aside0 (ferrulelaw13_tells.j1 kq l0 a1 a2 a3 t246 t247 t250 t251 t254 t255 x16_13 x78_27 = some r) ∧ Aside0 (kq ≤ kj13) ∧ Aside0 (Kd.R (Kd.int .i64) 3 wc w.heap.size (fun _ => True) v248 t246) ∧ Aside0 (Kd.R k35 35 wc w.heap.size (fun k_ => some k_ ≠ (v256 : Value).ownBlock) v252 t250) ∧ Aside0 (Kd.R k35 35 wc w.heap.size (fun k_ => some k_ ≠ (v252 : Value).ownBlock) v256 t254) ∧ Aside0 (Kd.C k35 wc Ao20 y242.length y242) ∧ Aside0 (Below w.heap.size w wc))
                case first =>
                  have H := HC28.out
                  clear HC28
                  by_cases c29 : x16_13 = true
                  · subst c29
                    have H1 : (if a1 < 1 then (ferrulelaw13_tells.j1 kj13 l0 a1 a2 a3 t246 t247 t250 t251 t254 t255 true true) else (if a1 > 64 then (ferrulelaw13_tells.j1 kj13 l0 a1 a2 a3 t246 t247 t250 t251 t254 t255 true true) else ((ferruleref13_Inside.f kj13 l0 (wrap64 (a1 * a2))).bind fun t260 => (ferrulelaw13_tells.j1 kj13 l0 a1 a2 a3 t246 t247 t250 t251 t254 t255 true (!t260))))) = some r := by rw [if_pos rfl] at H; exact H
                    clear H
                    have H := H1
                    clear H1
                    by_cases c30 : a1 < 1
                    · rw [if_pos c30] at H
                      have c30b0 : decide (a1 < 1) = true := decide_eq_true c30
                      clear c30
                      (first | rw [c30b0] | (simp only [i64_w, i32_w]; rw [c30b0]) | skip)
                      have H' := Aside0.mk H
                      clear H
                      go_wp2
                      go_meet
                      case rel => exact ⟨_, (true), (by first | rfl | (simp; done) | (simp [*]; done)), H', ⟨by have := HJ13.out; first | omega | exact Nat.le_refl _⟩, ⟨by (with_reducible repeat (first | apply Kd.R_alloc | apply Kd.R_drewN | apply Kd.R_drew)); exact HO_10.out⟩, ⟨by (with_reducible repeat (first | apply Kd.R_alloc | apply Kd.R_drewN | apply Kd.R_drew)); exact HO_12.out⟩, ⟨by (with_reducible repeat (first | apply Kd.R_alloc | apply Kd.R_drewN | apply Kd.R_drew)); exact HO_14.out⟩, ⟨by repeat (first | (with_reducible exact HR245.out) | (with_reducible refine Kd.C_alloc ?_ _) | (with_reducible refine Kd.C_drewN ?_ _) | (with_reducible refine Kd.C_drew ?_) | exact HR245.out)⟩, ⟨by repeat (first | (with_reducible first | exact HB.out | apply below_alloc | apply pw_below_drewN | apply below_drew1) | exact HB.out)⟩⟩
                    · rw [if_neg c30] at H
                      have c30b0 : decide (a1 < 1) = false := decide_eq_false c30
                      clear c30
                      (first | rw [c30b0] | (simp only [i64_w, i32_w]; rw [c30b0]) | skip)
                      by_cases c31 : a1 > 64
                      · rw [if_pos c31] at H
                        have c31b0 : decide (64 < a1) = true := decide_eq_true c31
                        clear c31
                        have H' := Aside0.mk H
                        clear H
                        go_wp2
                        go_meet
                        case rel => exact ⟨_, (true), (by first | rfl | (simp; done) | (simp [*]; done)), H', ⟨by have := HJ13.out; first | omega | exact Nat.le_refl _⟩, ⟨by (with_reducible repeat (first | apply Kd.R_alloc | apply Kd.R_drewN | apply Kd.R_drew)); exact HO_10.out⟩, ⟨by (with_reducible repeat (first | apply Kd.R_alloc | apply Kd.R_drewN | apply Kd.R_drew)); exact HO_12.out⟩, ⟨by (with_reducible repeat (first | apply Kd.R_alloc | apply Kd.R_drewN | apply Kd.R_drew)); exact HO_14.out⟩, ⟨by repeat (first | (with_reducible exact HR245.out) | (with_reducible refine Kd.C_alloc ?_ _) | (with_reducible refine Kd.C_drewN ?_ _) | (with_reducible refine Kd.C_drew ?_) | exact HR245.out)⟩, ⟨by repeat (first | (with_reducible first | exact HB.out | apply below_alloc | apply pw_below_drewN | apply below_drew1) | exact HB.out)⟩⟩
                      · rw [if_neg c31] at H
                        have c31b0 : decide (64 < a1) = false := decide_eq_false c31
                        clear c31
                        replace H := Option.bind_eq_some_iff.mp H
                        obtain ⟨t260, A320, H⟩ := H
                        replace H : (ferrulelaw13_tells.j1 kj13 l0 a1 a2 a3 t246 t247 t250 t251 t254 t255 true (!t260)) = some r := H
                        have A32 := Aside0.mk A320
                        clear A320
                        have H' := Aside0.mk H
                        clear H
                        go_wp2_with (first | (go_at_call 15; (with_reducible refine (ferruleref13_Inside.calls kj13 _ _ l0 (wrap64 (a1 * a2)) t260 _ ?side1 ?side2 A32.out).mono ?_); (case side1 => repeat (first | exact (Kd.C_below HR0.out HB.out) | (with_reducible refine Kd.C_alloc ?_ _) | (with_reducible refine Kd.C_drewN ?_ _) | (with_reducible refine Kd.C_drew ?_))); (case side2 => exact HC0.out); rintro e w' ⟨rfl, ⟨nd, rfl⟩⟩))
                        go_meet
                        case rel => exact ⟨_, (!t260), (by first | rfl | (simp; done) | (simp [*]; done)), H', ⟨by have := HJ13.out; first | omega | exact Nat.le_refl _⟩, ⟨by (with_reducible repeat (first | apply Kd.R_alloc | apply Kd.R_drewN | apply Kd.R_drew)); exact HO_10.out⟩, ⟨by (with_reducible repeat (first | apply Kd.R_alloc | apply Kd.R_drewN | apply Kd.R_drew)); exact HO_12.out⟩, ⟨by (with_reducible repeat (first | apply Kd.R_alloc | apply Kd.R_drewN | apply Kd.R_drew)); exact HO_14.out⟩, ⟨by repeat (first | (with_reducible exact HR245.out) | (with_reducible refine Kd.C_alloc ?_ _) | (with_reducible refine Kd.C_drewN ?_ _) | (with_reducible refine Kd.C_drew ?_) | exact HR245.out)⟩, ⟨by repeat (first | (with_reducible first | exact HB.out | apply below_alloc | apply pw_below_drewN | apply below_drew1) | exact HB.out)⟩⟩
                  · replace c29 := Bool.eq_false_iff.mpr c29
                    subst c29
                    have H1 : (ferrulelaw13_tells.j1 kj13 l0 a1 a2 a3 t246 t247 t250 t251 t254 t255 false true) = some r := by rw [if_neg (show ¬ (false = true) by decide)] at H; exact H
                    clear H
                    have H := H1
                    clear H1
                    have H' := Aside0.mk H
                    clear H
                    go_wp2
                    go_meet
                    case rel => exact ⟨_, (true), (by first | rfl | (simp; done) | (simp [*]; done)), H', ⟨by have := HJ13.out; first | omega | exact Nat.le_refl _⟩, ⟨by (with_reducible repeat (first | apply Kd.R_alloc | apply Kd.R_drewN | apply Kd.R_drew)); exact HO_10.out⟩, ⟨by (with_reducible repeat (first | apply Kd.R_alloc | apply Kd.R_drewN | apply Kd.R_drew)); exact HO_12.out⟩, ⟨by (with_reducible repeat (first | apply Kd.R_alloc | apply Kd.R_drewN | apply Kd.R_drew)); exact HO_14.out⟩, ⟨by repeat (first | (with_reducible exact HR245.out) | (with_reducible refine Kd.C_alloc ?_ _) | (with_reducible refine Kd.C_drewN ?_ _) | (with_reducible refine Kd.C_drew ?_) | exact HR245.out)⟩, ⟨by repeat (first | (with_reducible first | exact HB.out | apply below_alloc | apply pw_below_drewN | apply below_drew1) | exact HB.out)⟩⟩
                case rest =>
                  clear HC28
                  try clear c1
                  try clear q1
                  try clear c2
                  try clear p2
                  try clear c3
                  try clear c5
                  try clear c6
                  try clear p6
                  try clear c7
                  try clear c7b0
                  try clear c7b1
                  try clear c8
                  try clear c8b0
                  try clear c8b1
                  try clear c9
                  try clear c11
                  try clear c13
                  try clear c16
                  try clear c19
                  try clear q19
                  try clear c24
                  try clear c24b0
                  try clear c25
                  try clear c25b0
                  try clear c29
                  try clear c30
                  try clear c30b0
                  try clear c31
                  try clear c31b0
                  try clear p2
                  try clear q1
                  try clear q19
                  obtain ⟨kq, x78_27, rfl, HA, HJ27, HO_10, HO_12, HO_14, HR245, HB⟩ := hcut
                  cases kq with
                  | zero => exact absurd HA.out (by simp [ferrulelaw13_tells.j1])
                  | succ kj27 =>
                    have H := HA.out
                    clear HA
                    simp only [ferrulelaw13_tells.j1] at H
                    have HC33 := Aside0.mk H
                    clear H
                    go_upto_if 78 with (fail)
                    go_cut [] (fun wc => ∃ (kq : Nat), Aside0 (ferrulelaw13_tells.j2 kq l0 a2 a3 t250 t251 t254 t255 x16_13 = some r) ∧ Aside0 (kq ≤ kj27) ∧ Aside0 (Kd.R k35 35 wc w.heap.size (fun k_ => some k_ ≠ (v256 : Value).ownBlock) v252 t250) ∧ Aside0 (Kd.R k35 35 wc w.heap.size (fun k_ => some k_ ≠ (v252 : Value).ownBlock) v256 t254) ∧ Aside0 (Kd.C k35 wc Ao20 y242.length y242) ∧ Aside0 (Below w.heap.size w wc))
                    case first =>
                      have H := HC33.out
                      clear HC33
                      by_cases c34 : x78_27 = true
                      · subst c34
                        have H1 : (if t247 = 1 then (if (t246.length : Int) = 0 then (ferrulelaw13_tells.j2 kj27 l0 a2 a3 t250 t251 t254 t255 x16_13) else (some false)) else (some false)) = some r := by rw [if_pos rfl] at H; exact H
                        clear H
                        have H := H1
                        clear H1
                        by_cases c35 : t247 = 1
                        · rw [if_pos c35] at H
                          have c35b0 : (t247 == 1) = true := beq_iff_eq.mpr c35
                          have c35b1 : (t247 != 1) = false := bne_eq_false_iff_eq.mpr c35
                          clear c35
                          (first | rw [c35b0] | (simp only [i64_w, i32_w]; rw [c35b0]) | skip)
                          by_cases c36 : (t246.length : Int) = 0
                          · rw [if_pos c36] at H
                            have c36b0 : ((t246.length : Int) == 0) = true := beq_iff_eq.mpr c36
                            have c36b1 : ((t246.length : Int) != 0) = false := bne_eq_false_iff_eq.mpr c36
                            clear c36
                            have H' := Aside0.mk H
                            clear H
                            obtain ⟨Ao37, co37, eo37⟩ := Kd.R_slice HO_10.out
                            subst eo37
                            go_wp2
                            go_meet
                            case rel => exact ⟨_, H', ⟨by have := HJ13.out; have := HJ27.out; first | omega | exact Nat.le_refl _⟩, ⟨by (with_reducible repeat (first | apply Kd.R_alloc | apply Kd.R_drewN | apply Kd.R_drew)); exact HO_12.out⟩, ⟨by (with_reducible repeat (first | apply Kd.R_alloc | apply Kd.R_drewN | apply Kd.R_drew)); exact HO_14.out⟩, ⟨by repeat (first | (with_reducible exact HR245.out) | (with_reducible refine Kd.C_alloc ?_ _) | (with_reducible refine Kd.C_drewN ?_ _) | (with_reducible refine Kd.C_drew ?_) | exact HR245.out)⟩, ⟨by repeat (first | (with_reducible first | exact HB.out | apply below_alloc | apply pw_below_drewN | apply below_drew1) | exact HB.out)⟩⟩
                          · rw [if_neg c36] at H
                            have c36b0 : ((t246.length : Int) == 0) = false := beq_eq_false_iff_ne.mpr c36
                            have c36b1 : ((t246.length : Int) != 0) = true := bne_iff_ne.mpr c36
                            have c36b2 : ¬ (t246 = []) := fun h_ => c36 (by rw [h_]; rfl)
                            obtain rfl := Option.some.inj H
                            obtain ⟨Ao38, co38, eo38⟩ := Kd.R_slice HO_10.out
                            subst eo38
                            go_wp2
                            go_ret
                            exact ⟨by first | rfl | (simp [errW_none, errW_some] <;> rfl) | (simp [*, errW_none, errW_some] <;> rfl), by repeat (first | (with_reducible first | exact HB.out | apply below_alloc | apply pw_below_drewN | apply below_drew1) | exact HB.out)⟩
                        · rw [if_neg c35] at H
                          have c35b0 : (t247 == 1) = false := beq_eq_false_iff_ne.mpr c35
                          have c35b1 : (t247 != 1) = true := bne_iff_ne.mpr c35
                          (first | rw [c35b0] | (simp only [i64_w, i32_w]; rw [c35b0]) | skip)
                          obtain rfl := Option.some.inj H
                          go_wp2
                          go_ret
                          exact ⟨by first | rfl | (simp [errW_none, errW_some] <;> rfl) | (simp [*, errW_none, errW_some] <;> rfl), by repeat (first | (with_reducible first | exact HB.out | apply below_alloc | apply pw_below_drewN | apply below_drew1) | exact HB.out)⟩
                      · replace c34 := Bool.eq_false_iff.mpr c34
                        subst c34
                        have H1 : (if t247 = 0 then ((ferruleref13_Valid.f kj27 l0 a1 a2).bind fun t261 => ((ferrulelaw13_ints.f kj27 t246 t261).bind fun t264 => (if t264 = true then (ferrulelaw13_tells.j2 kj27 l0 a2 a3 t250 t251 t254 t255 x16_13) else (some false)))) else (some false)) = some r := by rw [if_neg (show ¬ (false = true) by decide)] at H; exact H
                        clear H
                        have H := H1
                        clear H1
                        by_cases c39 : t247 = 0
                        · rw [if_pos c39] at H
                          have c39b0 : (t247 == 0) = true := beq_iff_eq.mpr c39
                          have c39b1 : (t247 != 0) = false := bne_eq_false_iff_eq.mpr c39
                          clear c39
                          replace H := Option.bind_eq_some_iff.mp H
                          obtain ⟨t261, A400, H⟩ := H
                          replace H : ((ferrulelaw13_ints.f kj27 t246 t261).bind fun t264 => (if t264 = true then (ferrulelaw13_tells.j2 kj27 l0 a2 a3 t250 t251 t254 t255 x16_13) else (some false))) = some r := H
                          have A40 := Aside0.mk A400
                          clear A400
                          replace H := Option.bind_eq_some_iff.mp H
                          obtain ⟨t264, A410, H⟩ := H
                          replace H : (if t264 = true then (ferrulelaw13_tells.j2 kj27 l0 a2 a3 t250 t251 t254 t255 x16_13) else (some false)) = some r := H
                          have A41 := Aside0.mk A410
                          clear A410
                          by_cases c42 : t264 = true
                          · subst c42
                            have H1 : (ferrulelaw13_tells.j2 kj27 l0 a2 a3 t250 t251 t254 t255 x16_13) = some r := by rw [if_pos rfl] at H; exact H
                            clear H
                            have H := H1
                            clear H1
                            have H' := Aside0.mk H
                            clear H
                            go_wp2_with (first | (go_at_call 23; (with_reducible refine (ferruleref13_Valid.calls kj27 _ _ l0 a1 a2 t261 _ ?side1 ?side2 A40.out).mono ?_); (case side1 => repeat (first | exact (Kd.C_below HR0.out HB.out) | (with_reducible refine Kd.C_alloc ?_ _) | (with_reducible refine Kd.C_drewN ?_ _) | (with_reducible refine Kd.C_drew ?_))); (case side2 => exact HC0.out); rintro e w43 ⟨v262, rfl, ho0, hb⟩; have n0_ := Aside0.mk (Kd.R_elder' (by (with_reducible repeat (first | apply Kd.R_alloc | apply Kd.R_drewN | apply Kd.R_drew)); exact HO_10.out) (Kd.R_base ho0) hb); have n1_ := Aside0.mk (Kd.R_below (by (with_reducible repeat (first | apply Kd.R_alloc | apply Kd.R_drewN | apply Kd.R_drew)); exact HO_12.out) hb); have n2_ := Aside0.mk (Kd.R_below (by (with_reducible repeat (first | apply Kd.R_alloc | apply Kd.R_drewN | apply Kd.R_drew)); exact HO_14.out) hb); have n3_ := Aside0.mk (Kd.R_lower (Kd.R_new' ho0 (Kd.R_lt (by (with_reducible repeat (first | apply Kd.R_alloc | apply Kd.R_drewN | apply Kd.R_drew)); exact HO_10.out))) (below_size (by repeat (first | (with_reducible first | exact HB.out | apply below_alloc | apply pw_below_drewN | apply below_drew1) | exact HB.out)))); have n4_ := Aside0.mk (Kd.C_below (by repeat (first | (with_reducible exact HR245.out) | (with_reducible refine Kd.C_alloc ?_ _) | (with_reducible refine Kd.C_drewN ?_ _) | (with_reducible refine Kd.C_drew ?_) | exact HR245.out)) hb); have n5_ := Aside0.mk (below_step (by repeat (first | (with_reducible first | exact HB.out | apply below_alloc | apply pw_below_drewN | apply below_drew1) | exact HB.out)) hb); clear HO_10; clear HO_12; clear HO_14; clear HR245; clear HB; have HO_10 := n0_; have HO_12 := n1_; have HO_14 := n2_; have HO263 := n3_; have HR245 := n4_; have HB := n5_; clear n0_ n1_ n2_ n3_ n4_ n5_; (try clear hb); (try clear hb2); (try clear hk); (try clear hi); (try clear ho0); obtain ⟨Ao44, co44, eo44⟩ := Kd.R_slice HO_10.out; subst eo44; obtain ⟨Ao45, co45, eo45⟩ := Kd.R_slice HO263.out; subst eo45) | (go_at_call 20; (with_reducible refine (ferrulelaw13_ints.calls kj27 _ _ t246 _ _ t261 true _ ?side1 ?side2 ?side3 ?side4 A41.out).mono ?_); (case side1 => repeat (first | exact (Kd.R_reads' HO_10.out).2.2 | (with_reducible refine Kd.C_alloc ?_ _) | (with_reducible refine Kd.C_drewN ?_ _) | (with_reducible refine Kd.C_drew ?_))); (case side2 => exact (Kd.R_reads' HO_10.out).2.1); (case side3 => repeat (first | exact (Kd.R_reads' HO263.out).2.2 | (with_reducible refine Kd.C_alloc ?_ _) | (with_reducible refine Kd.C_drewN ?_ _) | (with_reducible refine Kd.C_drew ?_))); (case side4 => exact (Kd.R_reads' HO263.out).2.1); rintro e w' ⟨rfl, ⟨nd, rfl⟩⟩))
                            go_meet
                            case rel => exact ⟨_, H', ⟨by have := HJ13.out; have := HJ27.out; first | omega | exact Nat.le_refl _⟩, ⟨by (with_reducible repeat (first | apply Kd.R_alloc | apply Kd.R_drewN | apply Kd.R_drew)); exact HO_12.out⟩, ⟨by (with_reducible repeat (first | apply Kd.R_alloc | apply Kd.R_drewN | apply Kd.R_drew)); exact HO_14.out⟩, ⟨by repeat (first | (with_reducible exact HR245.out) | (with_reducible refine Kd.C_alloc ?_ _) | (with_reducible refine Kd.C_drewN ?_ _) | (with_reducible refine Kd.C_drew ?_) | exact HR245.out)⟩, ⟨by repeat (first | (with_reducible first | exact HB.out | apply below_alloc | apply pw_below_drewN | apply below_drew1) | exact HB.out)⟩⟩
                          · replace c42 := Bool.eq_false_iff.mpr c42
                            subst c42
                            have H1 : (some false) = some r := by rw [if_neg (show ¬ (false = true) by decide)] at H; exact H
                            clear H
                            have H := H1
                            clear H1
                            obtain rfl := Option.some.inj H
                            go_wp2_with (first | (go_at_call 23; (with_reducible refine (ferruleref13_Valid.calls kj27 _ _ l0 a1 a2 t261 _ ?side1 ?side2 A40.out).mono ?_); (case side1 => repeat (first | exact (Kd.C_below HR0.out HB.out) | (with_reducible refine Kd.C_alloc ?_ _) | (with_reducible refine Kd.C_drewN ?_ _) | (with_reducible refine Kd.C_drew ?_))); (case side2 => exact HC0.out); rintro e w46 ⟨v262, rfl, ho0, hb⟩; have n0_ := Aside0.mk (Kd.R_elder' (by (with_reducible repeat (first | apply Kd.R_alloc | apply Kd.R_drewN | apply Kd.R_drew)); exact HO_10.out) (Kd.R_base ho0) hb); have n1_ := Aside0.mk (Kd.R_below (by (with_reducible repeat (first | apply Kd.R_alloc | apply Kd.R_drewN | apply Kd.R_drew)); exact HO_12.out) hb); have n2_ := Aside0.mk (Kd.R_below (by (with_reducible repeat (first | apply Kd.R_alloc | apply Kd.R_drewN | apply Kd.R_drew)); exact HO_14.out) hb); have n3_ := Aside0.mk (Kd.R_lower (Kd.R_new' ho0 (Kd.R_lt (by (with_reducible repeat (first | apply Kd.R_alloc | apply Kd.R_drewN | apply Kd.R_drew)); exact HO_10.out))) (below_size (by repeat (first | (with_reducible first | exact HB.out | apply below_alloc | apply pw_below_drewN | apply below_drew1) | exact HB.out)))); have n4_ := Aside0.mk (Kd.C_below (by repeat (first | (with_reducible exact HR245.out) | (with_reducible refine Kd.C_alloc ?_ _) | (with_reducible refine Kd.C_drewN ?_ _) | (with_reducible refine Kd.C_drew ?_) | exact HR245.out)) hb); have n5_ := Aside0.mk (below_step (by repeat (first | (with_reducible first | exact HB.out | apply below_alloc | apply pw_below_drewN | apply below_drew1) | exact HB.out)) hb); clear HO_10; clear HO_12; clear HO_14; clear HR245; clear HB; have HO_10 := n0_; have HO_12 := n1_; have HO_14 := n2_; have HO263 := n3_; have HR245 := n4_; have HB := n5_; clear n0_ n1_ n2_ n3_ n4_ n5_; (try clear hb); (try clear hb2); (try clear hk); (try clear hi); (try clear ho0); obtain ⟨Ao47, co47, eo47⟩ := Kd.R_slice HO_10.out; subst eo47; obtain ⟨Ao48, co48, eo48⟩ := Kd.R_slice HO263.out; subst eo48) | (go_at_call 20; (with_reducible refine (ferrulelaw13_ints.calls kj27 _ _ t246 _ _ t261 false _ ?side1 ?side2 ?side3 ?side4 A41.out).mono ?_); (case side1 => repeat (first | exact (Kd.R_reads' HO_10.out).2.2 | (with_reducible refine Kd.C_alloc ?_ _) | (with_reducible refine Kd.C_drewN ?_ _) | (with_reducible refine Kd.C_drew ?_))); (case side2 => exact (Kd.R_reads' HO_10.out).2.1); (case side3 => repeat (first | exact (Kd.R_reads' HO263.out).2.2 | (with_reducible refine Kd.C_alloc ?_ _) | (with_reducible refine Kd.C_drewN ?_ _) | (with_reducible refine Kd.C_drew ?_))); (case side4 => exact (Kd.R_reads' HO263.out).2.1); rintro e w' ⟨rfl, ⟨nd, rfl⟩⟩))
                            go_ret
                            exact ⟨by first | rfl | (simp [errW_none, errW_some] <;> rfl) | (simp [*, errW_none, errW_some] <;> rfl), by repeat (first | (with_reducible first | exact HB.out | apply below_alloc | apply pw_below_drewN | apply below_drew1) | exact HB.out)⟩
                        · rw [if_neg c39] at H
                          have c39b0 : (t247 == 0) = false := beq_eq_false_iff_ne.mpr c39
                          have c39b1 : (t247 != 0) = true := bne_iff_ne.mpr c39
                          obtain rfl := Option.some.inj H
                          go_wp2
                          go_ret
                          exact ⟨by first | rfl | (simp [errW_none, errW_some] <;> rfl) | (simp [*, errW_none, errW_some] <;> rfl), by repeat (first | (with_reducible first | exact HB.out | apply below_alloc | apply pw_below_drewN | apply below_drew1) | exact HB.out)⟩
                    case rest =>
                      clear HC33
                      try clear c1
                      try clear q1
                      try clear c2
                      try clear p2
                      try clear c3
                      try clear c4
                      try clear c5
                      try clear c6
                      try clear p6
                      try clear c7
                      try clear c7b0
                      try clear c7b1
                      try clear c8
                      try clear c8b0
                      try clear c8b1
                      try clear c9
                      try clear c11
                      try clear c13
                      try clear c16
                      try clear c19
                      try clear q19
                      try clear c24
                      try clear c24b0
                      try clear c25
                      try clear c25b0
                      try clear c29
                      try clear c30
                      try clear c30b0
                      try clear c31
                      try clear c31b0
                      try clear c34
                      try clear c35
                      try clear c35b0
                      try clear c35b1
                      try clear c36
                      try clear c36b0
                      try clear c36b1
                      try clear c36b2
                      try clear c39
                      try clear c39b0
                      try clear c39b1
                      try clear c42
                      try clear p2
                      try clear p6
                      try clear q1
                      try clear q19
                      obtain ⟨kq, HA, HJ32, HO_12, HO_14, HR245, HB⟩ := hcut
                      cases kq with
                      | zero => exact absurd HA.out (by simp [ferrulelaw13_tells.j2])
                      | succ kj32 =>
                        have H := HA.out
                        clear HA
                        simp only [ferrulelaw13_tells.j2] at H
                        have HC49 := Aside0.mk H
                        clear H
                        go_upto_region 13 with (fail)
                        go_cut [16] (fun v16 wc => ∃ (kq : Nat) (x16_48 : Bool), v16 = .bool x16_48 ∧ Aside0 (ferrulelaw13_tells.j3 kq l0 a2 a3 t250 t251 t254 t255 x16_48 = some r) ∧ Aside0 (kq ≤ kj32) ∧ Aside0 (Kd.R k35 35 wc w.heap.size (fun k_ => some k_ ≠ (v256 : Value).ownBlock) v252 t250) ∧ Aside0 (Kd.R k35 35 wc w.heap.size (fun k_ => some k_ ≠ (v252 : Value).ownBlock) v256 t254) ∧ Aside0 (Kd.C k35 wc Ao20 y242.length y242) ∧ Aside0 (Below w.heap.size w wc))
                        case first =>
                          have H := HC49.out
                          clear HC49
                          by_cases c50 : x16_13 = true
                          · subst c50
                            have H1 : ((ferruleref13_Inside.f kj32 l0 1049089).bind fun t265 => (ferrulelaw13_tells.j3 kj32 l0 a2 a3 t250 t251 t254 t255 t265)) = some r := by rw [if_pos rfl] at H; exact H
                            clear H
                            have H := H1
                            clear H1
                            replace H := Option.bind_eq_some_iff.mp H
                            obtain ⟨t265, A510, H⟩ := H
                            replace H : (ferrulelaw13_tells.j3 kj32 l0 a2 a3 t250 t251 t254 t255 t265) = some r := H
                            have A51 := Aside0.mk A510
                            clear A510
                            have H' := Aside0.mk H
                            clear H
                            go_wp2_with (first | (go_at_call 15; (with_reducible refine (ferruleref13_Inside.calls kj32 _ _ l0 1049089 t265 _ ?side1 ?side2 A51.out).mono ?_); (case side1 => repeat (first | exact (Kd.C_below HR0.out HB.out) | (with_reducible refine Kd.C_alloc ?_ _) | (with_reducible refine Kd.C_drewN ?_ _) | (with_reducible refine Kd.C_drew ?_))); (case side2 => exact HC0.out); rintro e w' ⟨rfl, ⟨nd, rfl⟩⟩))
                            go_meet
                            case rel => exact ⟨_, (t265), (by first | rfl | (simp; done) | (simp [*]; done)), H', ⟨by have := HJ13.out; have := HJ27.out; have := HJ32.out; first | omega | exact Nat.le_refl _⟩, ⟨by (with_reducible repeat (first | apply Kd.R_alloc | apply Kd.R_drewN | apply Kd.R_drew)); exact HO_12.out⟩, ⟨by (with_reducible repeat (first | apply Kd.R_alloc | apply Kd.R_drewN | apply Kd.R_drew)); exact HO_14.out⟩, ⟨by repeat (first | (with_reducible exact HR245.out) | (with_reducible refine Kd.C_alloc ?_ _) | (with_reducible refine Kd.C_drewN ?_ _) | (with_reducible refine Kd.C_drew ?_) | exact HR245.out)⟩, ⟨by repeat (first | (with_reducible first | exact HB.out | apply below_alloc | apply pw_below_drewN | apply below_drew1) | exact HB.out)⟩⟩
                          · replace c50 := Bool.eq_false_iff.mpr c50
                            subst c50
                            have H1 : (ferrulelaw13_tells.j3 kj32 l0 a2 a3 t250 t251 t254 t255 false) = some r := by rw [if_neg (show ¬ (false = true) by decide)] at H; exact H
                            clear H
                            have H := H1
                            clear H1
                            have H' := Aside0.mk H
                            clear H
                            go_wp2
                            go_meet
                            case rel => exact ⟨_, (false), (by first | rfl | (simp; done) | (simp [*]; done)), H', ⟨by have := HJ13.out; have := HJ27.out; have := HJ32.out; first | omega | exact Nat.le_refl _⟩, ⟨by (with_reducible repeat (first | apply Kd.R_alloc | apply Kd.R_drewN | apply Kd.R_drew)); exact HO_12.out⟩, ⟨by (with_reducible repeat (first | apply Kd.R_alloc | apply Kd.R_drewN | apply Kd.R_drew)); exact HO_14.out⟩, ⟨by repeat (first | (with_reducible exact HR245.out) | (with_reducible refine Kd.C_alloc ?_ _) | (with_reducible refine Kd.C_drewN ?_ _) | (with_reducible refine Kd.C_drew ?_) | exact HR245.out)⟩, ⟨by repeat (first | (with_reducible first | exact HB.out | apply below_alloc | apply pw_below_drewN | apply below_drew1) | exact HB.out)⟩⟩
                        case rest =>
                          clear HC49
                          try clear c1
                          try clear q1
                          try clear c2
                          try clear p2
                          try clear c3
                          try clear c4
                          try clear c5
                          try clear c6
                          try clear p6
                          try clear c7
                          try clear c7b0
                          try clear c7b1
                          try clear c8
                          try clear c8b0
                          try clear c8b1
                          try clear c9
                          try clear c11
                          try clear c13
                          try clear c16
                          try clear c19
                          try clear q19
                          try clear c24
                          try clear c24b0
                          try clear c25
                          try clear c25b0
                          try clear c29
                          try clear c30
                          try clear c30b0
                          try clear c31
                          try clear c31b0
                          try clear c34
                          try clear c35
                          try clear c35b0
                          try clear c35b1
                          try clear c36
                          try clear c36b0
                          try clear c36b1
                          try clear c36b2
                          try clear c39
                          try clear c39b0
                          try clear c39b1
                          try clear c42
                          try clear c50
                          try clear p2
                          try clear p6
                          try clear q1
                          try clear q19
                          obtain ⟨kq, x16_48, rfl, HA, HJ48, HO_12, HO_14, HR245, HB⟩ := hcut
                          cases kq with
                          | zero => exact absurd HA.out (by simp [ferrulelaw13_tells.j3])
                          | succ kj48 =>
                            have H := HA.out
                            clear HA
                            simp only [ferrulelaw13_tells.j3] at H
                            have H' := Aside0.mk H
                            clear H
                            go_wp2
                            go_loopg [16, 17] kj48 (fun kq v16 v17 w' => ∃ (x16_5 : Bool) (x17_5 : Int), v16 = .bool x16_5 ∧ v17 = .int .i64 x17_5 ∧ Aside0 (ferrulelaw13_tells.l0 kq l0 a2 a3 t250 t251 t254 t255 x16_5 x17_5 = some r) ∧ Aside0 (kq ≤ kj48) ∧ Aside0 (Kd.R k35 35 w' w.heap.size (fun k_ => some k_ ≠ (v256 : Value).ownBlock) v252 t250) ∧ Aside0 (Kd.R k35 35 w' w.heap.size (fun k_ => some k_ ≠ (v252 : Value).ownBlock) v256 t254) ∧ Aside0 (Kd.C k35 w' Ao20 y242.length y242) ∧ Aside0 (Below w.heap.size w w'))
                            case atStart => exact ⟨(x16_48), (0), (by first | rfl | (simp; done) | (simp [*]; done)), (by first | rfl | (simp; done) | (simp [*]; done)), H', ⟨Nat.le_refl _⟩, ⟨by (with_reducible repeat (first | apply Kd.R_alloc | apply Kd.R_drewN | apply Kd.R_drew)); exact HO_12.out⟩, ⟨by (with_reducible repeat (first | apply Kd.R_alloc | apply Kd.R_drewN | apply Kd.R_drew)); exact HO_14.out⟩, ⟨by repeat (first | (with_reducible exact HR245.out) | (with_reducible refine Kd.C_alloc ?_ _) | (with_reducible refine Kd.C_drewN ?_ _) | (with_reducible refine Kd.C_drew ?_) | exact HR245.out)⟩, ⟨by repeat (first | (with_reducible first | exact HB.out | apply below_alloc | apply pw_below_drewN | apply below_drew1) | exact HB.out)⟩⟩
                            case round =>
                              clear H'
                              try clear c1
                              try clear q1
                              try clear c2
                              try clear p2
                              try clear c3
                              try clear c4
                              try clear c5
                              try clear c6
                              try clear p6
                              try clear c7
                              try clear c7b0
                              try clear c7b1
                              try clear c8
                              try clear c8b0
                              try clear c8b1
                              try clear c9
                              try clear c11
                              try clear c13
                              try clear c16
                              try clear c19
                              try clear q19
                              try clear c24
                              try clear c24b0
                              try clear c25
                              try clear c25b0
                              try clear c29
                              try clear c30
                              try clear c30b0
                              try clear c31
                              try clear c31b0
                              try clear c34
                              try clear c35
                              try clear c35b0
                              try clear c35b1
                              try clear c36
                              try clear c36b0
                              try clear c36b1
                              try clear c36b2
                              try clear c39
                              try clear c39b0
                              try clear c39b1
                              try clear c42
                              try clear c50
                              try clear p2
                              try clear p6
                              try clear q1
                              try clear q19
                              obtain ⟨x16_5, x17_5, rfl, rfl, HA, HK5, HO_12, HO_14, HR245, HB⟩ := hrel
                              cases gk with
                              | zero => exact absurd HA.out (by simp [ferrulelaw13_tells.l0])
                              | succ k5 =>
                                have H := HA.out
                                clear HA
                                simp only [ferrulelaw13_tells.l0] at H
                                by_cases c52 : x17_5 < (l0.length : Int)
                                · rw [if_pos c52] at H
                                  have c52b0 : decide (x17_5 < (l0.length : Int)) = true := decide_eq_true c52
                                  clear c52
                                  by_cases c53 : x16_5 = true
                                  · subst c53
                                    have H1 : (if 0 ≤ x17_5 then (ferrulelaw13_tells.l0 k5 l0 a2 a3 t250 t251 t254 t255 (decide (((rd_T35 l0 x17_5).f2) ≤ 1048576)) (wrap64 (x17_5 + 1))) else (none)) = some r := by rw [if_pos rfl] at H; exact H
                                    clear H
                                    have H := H1
                                    clear H1
                                    by_cases c54 : 0 ≤ x17_5
                                    · rw [if_pos c54] at H
                                      have c54b0 : decide (0 ≤ x17_5) = true := decide_eq_true c54
                                      clear c54
                                      have H' := Aside0.mk H
                                      clear H
                                      have p266 : 0 ≤ (x17_5 : Int) := of_decide_eq_true (by first | (with_reducible assumption) | assumption)
                                      have q266 : x17_5 < (l0.length : Int) := of_decide_eq_true (by first | (with_reducible assumption) | assumption)
                                      obtain ⟨ad266, e266, hx266_0, hx266_1, hx266_2⟩ := at_T35 HR0.out x17_5 p266 q266
                                      cases e266
                                      replace hx266_0 := (HB.out.cell (World.block_lt_of_cell? w _ hx266_0)).trans hx266_0
                                      replace hx266_1 := (HB.out.cell (World.block_lt_of_cell? w _ hx266_1)).trans hx266_1
                                      replace hx266_2 := (HB.out.cell (World.block_lt_of_cell? w _ hx266_2)).trans hx266_2
                                      replace p266 := eq_true p266
                                      replace q266 := eq_true q266
                                      go_wp2
                                      go_roundg k5
                                      case measure => have := HJ13.out; have := HJ27.out; have := HJ32.out; have := HJ48.out; have := HK5.out; omega
                                      case rel => exact ⟨(decide (((rd_T35 l0 x17_5).f2) ≤ 1048576)), (wrap64 (x17_5 + 1)), (by first | rfl | (simp; done) | (simp [*]; done)), (by first | rfl | (simp; done) | (simp [*]; done)), H', ⟨by have := HJ13.out; have := HJ27.out; have := HJ32.out; have := HJ48.out; have := HK5.out; omega⟩, ⟨by (with_reducible repeat (first | apply Kd.R_alloc | apply Kd.R_drewN | apply Kd.R_drew)); exact HO_12.out⟩, ⟨by (with_reducible repeat (first | apply Kd.R_alloc | apply Kd.R_drewN | apply Kd.R_drew)); exact HO_14.out⟩, ⟨by repeat (first | (with_reducible exact HR245.out) | (with_reducible refine Kd.C_alloc ?_ _) | (with_reducible refine Kd.C_drewN ?_ _) | (with_reducible refine Kd.C_drew ?_) | exact HR245.out)⟩, ⟨by repeat (first | (with_reducible first | exact HB.out | apply below_alloc | apply pw_below_drewN | apply below_drew1) | exact HB.out)⟩⟩
                                    · rw [if_neg c54] at H
                                      exact absurd H (by simp)
                                  · replace c53 := Bool.eq_false_iff.mpr c53
                                    subst c53
                                    have H1 : (ferrulelaw13_tells.l0 k5 l0 a2 a3 t250 t251 t254 t255 false (wrap64 (x17_5 + 1))) = some r := by rw [if_neg (show ¬ (false = true) by decide)] at H; exact H
                                    clear H
                                    have H := H1
                                    clear H1
                                    have H' := Aside0.mk H
                                    clear H
                                    go_wp2
                                    go_roundg k5
                                    case measure => have := HJ13.out; have := HJ27.out; have := HJ32.out; have := HJ48.out; have := HK5.out; omega
                                    case rel => exact ⟨(false), (wrap64 (x17_5 + 1)), (by first | rfl | (simp; done) | (simp [*]; done)), (by first | rfl | (simp; done) | (simp [*]; done)), H', ⟨by have := HJ13.out; have := HJ27.out; have := HJ32.out; have := HJ48.out; have := HK5.out; omega⟩, ⟨by (with_reducible repeat (first | apply Kd.R_alloc | apply Kd.R_drewN | apply Kd.R_drew)); exact HO_12.out⟩, ⟨by (with_reducible repeat (first | apply Kd.R_alloc | apply Kd.R_drewN | apply Kd.R_drew)); exact HO_14.out⟩, ⟨by repeat (first | (with_reducible exact HR245.out) | (with_reducible refine Kd.C_alloc ?_ _) | (with_reducible refine Kd.C_drewN ?_ _) | (with_reducible refine Kd.C_drew ?_) | exact HR245.out)⟩, ⟨by repeat (first | (with_reducible first | exact HB.out | apply below_alloc | apply pw_below_drewN | apply below_drew1) | exact HB.out)⟩⟩
                                · rw [if_neg c52] at H
                                  have c52b0 : decide (x17_5 < (l0.length : Int)) = false := decide_eq_false c52
                                  clear c52
                                  by_cases c55 : x16_5 = true
                                  · subst c55
                                    have H1 : (if t251 = 0 then ((ferruleref13_Split.f k5 l0 a2).bind fun t267 => ((ferruleref9_Same.f k5 t250 t267).bind fun t270 => (ferrulelaw13_tells.j5 k5 l0 a2 a3 t254 t255 (!t270)))) else (ferrulelaw13_tells.j5 k5 l0 a2 a3 t254 t255 true)) = some r := by rw [if_pos rfl] at H; exact H
                                    clear H
                                    have H := H1
                                    clear H1
                                    have HC56 := Aside0.mk H
                                    clear H
                                    go_upto_region 20 with (fail)
                                    go_cut [144] (fun v144 wc => ∃ (kq : Nat) (x144_55 : Bool), v144 = .bool x144_55 ∧ Aside0 (ferrulelaw13_tells.j5 kq l0 a2 a3 t254 t255 x144_55 = some r) ∧ Aside0 (kq ≤ k5) ∧ Aside0 (Kd.R k35 35 wc w.heap.size (fun _ => True) v256 t254) ∧ Aside0 (Kd.C k35 wc Ao20 y242.length y242) ∧ Aside0 (Below w.heap.size w wc))
                                    case first =>
                                      have H := HC56.out
                                      clear HC56
                                      by_cases c57 : t251 = 0
                                      · rw [if_pos c57] at H
                                        have c57b0 : (t251 == 0) = true := beq_iff_eq.mpr c57
                                        have c57b1 : (t251 != 0) = false := bne_eq_false_iff_eq.mpr c57
                                        clear c57
                                        (first | rw [c57b0] | (simp only [i64_w, i32_w]; rw [c57b0]) | skip)
                                        replace H := Option.bind_eq_some_iff.mp H
                                        obtain ⟨t267, A580, H⟩ := H
                                        replace H : ((ferruleref9_Same.f k5 t250 t267).bind fun t270 => (ferrulelaw13_tells.j5 k5 l0 a2 a3 t254 t255 (!t270))) = some r := H
                                        have A58 := Aside0.mk A580
                                        clear A580
                                        replace H := Option.bind_eq_some_iff.mp H
                                        obtain ⟨t270, A590, H⟩ := H
                                        replace H : (ferrulelaw13_tells.j5 k5 l0 a2 a3 t254 t255 (!t270)) = some r := H
                                        have A59 := Aside0.mk A590
                                        clear A590
                                        have H' := Aside0.mk H
                                        clear H
                                        go_wp2_with (first | (go_at_call 24; (with_reducible refine (ferruleref13_Split.calls k5 _ _ l0 a2 t267 _ ?side1 ?side2 A58.out).mono ?_); (case side1 => repeat (first | exact (Kd.C_below HR0.out HB.out) | (with_reducible refine Kd.C_alloc ?_ _) | (with_reducible refine Kd.C_drewN ?_ _) | (with_reducible refine Kd.C_drew ?_))); (case side2 => exact HC0.out); rintro e w60 ⟨v268, rfl, ho0, hb⟩; have n0_ := Aside0.mk (Kd.R_elder' (by (with_reducible repeat (first | apply Kd.R_alloc | apply Kd.R_drewN | apply Kd.R_drew)); exact HO_12.out) (Kd.R_base ho0) hb); have n1_ := Aside0.mk (Kd.R_elder' (by (with_reducible repeat (first | apply Kd.R_alloc | apply Kd.R_drewN | apply Kd.R_drew)); exact HO_14.out) (Kd.R_base ho0) hb); have n2_ := Aside0.mk (Kd.R_lower (Kd.R_new' (Kd.R_new' ho0 (Kd.R_lt (by (with_reducible repeat (first | apply Kd.R_alloc | apply Kd.R_drewN | apply Kd.R_drew)); exact HO_12.out))) (Kd.R_lt (by (with_reducible repeat (first | apply Kd.R_alloc | apply Kd.R_drewN | apply Kd.R_drew)); exact HO_14.out))) (below_size (by repeat (first | (with_reducible first | exact HB.out | apply below_alloc | apply pw_below_drewN | apply below_drew1) | exact HB.out)))); have n3_ := Aside0.mk (Kd.C_below (by repeat (first | (with_reducible exact HR245.out) | (with_reducible refine Kd.C_alloc ?_ _) | (with_reducible refine Kd.C_drewN ?_ _) | (with_reducible refine Kd.C_drew ?_) | exact HR245.out)) hb); have n4_ := Aside0.mk (below_step (by repeat (first | (with_reducible first | exact HB.out | apply below_alloc | apply pw_below_drewN | apply below_drew1) | exact HB.out)) hb); clear HO_12; clear HO_14; clear HR245; clear HB; have HO_12 := n0_; have HO_14 := n1_; have HO269 := n2_; have HR245 := n3_; have HB := n4_; clear n0_ n1_ n2_ n3_ n4_; (try clear hb); (try clear hb2); (try clear hk); (try clear hi); (try clear ho0); obtain ⟨Ao61, co61, eo61⟩ := Kd.R_slice HO_12.out; subst eo61; obtain ⟨Ao62, co62, eo62⟩ := Kd.R_slice HO269.out; subst eo62) | (go_at_call 16; (with_reducible refine (ferruleref9_Same.calls k5 _ _ t250 _ _ t267 t270 _ ?side1 ?side2 ?side3 ?side4 A59.out).mono ?_); (case side1 => repeat (first | exact (Kd.R_reads' HO_12.out).2.2 | (with_reducible refine Kd.C_alloc ?_ _) | (with_reducible refine Kd.C_drewN ?_ _) | (with_reducible refine Kd.C_drew ?_))); (case side2 => exact (Kd.R_reads' HO_12.out).2.1); (case side3 => repeat (first | exact (Kd.R_reads' HO269.out).2.2 | (with_reducible refine Kd.C_alloc ?_ _) | (with_reducible refine Kd.C_drewN ?_ _) | (with_reducible refine Kd.C_drew ?_))); (case side4 => exact (Kd.R_reads' HO269.out).2.1); rintro e w' ⟨rfl, ⟨nd, rfl⟩⟩))
                                        go_meet
                                        case rel => exact ⟨_, (!t270), (by first | rfl | (simp; done) | (simp [*]; done)), H', ⟨by have := HJ13.out; have := HJ27.out; have := HJ32.out; have := HJ48.out; have := HK5.out; first | omega | exact Nat.le_refl _⟩, ⟨by (with_reducible repeat (first | apply Kd.R_alloc | apply Kd.R_drewN | apply Kd.R_drew)); exact Kd.R_mono HO_14.out (fun _ hk => trivial)⟩, ⟨by repeat (first | (with_reducible exact HR245.out) | (with_reducible refine Kd.C_alloc ?_ _) | (with_reducible refine Kd.C_drewN ?_ _) | (with_reducible refine Kd.C_drew ?_) | exact HR245.out)⟩, ⟨by repeat (first | (with_reducible first | exact HB.out | apply below_alloc | apply pw_below_drewN | apply below_drew1) | exact HB.out)⟩⟩
                                      · rw [if_neg c57] at H
                                        have c57b0 : (t251 == 0) = false := beq_eq_false_iff_ne.mpr c57
                                        have c57b1 : (t251 != 0) = true := bne_iff_ne.mpr c57
                                        (first | rw [c57b0] | (simp only [i64_w, i32_w]; rw [c57b0]) | skip)
                                        have H' := Aside0.mk H
                                        clear H
                                        go_wp2
                                        go_meet
                                        case rel => exact ⟨_, (true), (by first | rfl | (simp; done) | (simp [*]; done)), H', ⟨by have := HJ13.out; have := HJ27.out; have := HJ32.out; have := HJ48.out; have := HK5.out; first | omega | exact Nat.le_refl _⟩, ⟨by (with_reducible repeat (first | apply Kd.R_alloc | apply Kd.R_drewN | apply Kd.R_drew)); exact Kd.R_mono HO_14.out (fun _ hk => trivial)⟩, ⟨by repeat (first | (with_reducible exact HR245.out) | (with_reducible refine Kd.C_alloc ?_ _) | (with_reducible refine Kd.C_drewN ?_ _) | (with_reducible refine Kd.C_drew ?_) | exact HR245.out)⟩, ⟨by repeat (first | (with_reducible first | exact HB.out | apply below_alloc | apply pw_below_drewN | apply below_drew1) | exact HB.out)⟩⟩
                                    case rest =>
                                      clear HC56
                                      try clear c1
                                      try clear q1
                                      try clear c2
                                      try clear p2
                                      try clear q2
                                      try clear hx2
                                      try clear c3
                                      try clear c4
                                      try clear c5
                                      try clear c6
                                      try clear p6
                                      try clear c7
                                      try clear c7b0
                                      try clear c7b1
                                      try clear c8
                                      try clear c8b0
                                      try clear c8b1
                                      try clear c9
                                      try clear c11
                                      try clear c13
                                      try clear c16
                                      try clear c19
                                      try clear q19
                                      try clear c24
                                      try clear c24b0
                                      try clear c25
                                      try clear c25b0
                                      try clear p26
                                      try clear q26
                                      try clear hx26
                                      try clear c29
                                      try clear c30
                                      try clear c30b0
                                      try clear c31
                                      try clear c31b0
                                      try clear c34
                                      try clear c35
                                      try clear c35b0
                                      try clear c35b1
                                      try clear c36
                                      try clear c36b0
                                      try clear c36b1
                                      try clear c36b2
                                      try clear c39
                                      try clear c39b0
                                      try clear c39b1
                                      try clear c42
                                      try clear c50
                                      try clear c52
                                      try clear c52b0
                                      try clear c53
                                      try clear c54
                                      try clear c54b0
                                      try clear c55
                                      try clear c57
                                      try clear c57b0
                                      try clear c57b1
                                      try clear hx266_0
                                      try clear hx266_1
                                      try clear hx266_2
                                      try clear p2
                                      try clear p266
                                      try clear p6
                                      try clear q1
                                      try clear q19
                                      try clear q266
                                      obtain ⟨kq, x144_55, rfl, HA, HJ55, HO_14, HR245, HB⟩ := hcut
                                      cases kq with
                                      | zero => exact absurd HA.out (by simp [ferrulelaw13_tells.j5])
                                      | succ kj55 =>
                                        have H := HA.out
                                        clear HA
                                        simp only [ferrulelaw13_tells.j5] at H
                                        by_cases c63 : x144_55 = true
                                        · subst c63
                                          have H1 : (some false) = some r := by rw [if_pos rfl] at H; exact H
                                          clear H
                                          have H := H1
                                          clear H1
                                          obtain rfl := Option.some.inj H
                                          go_wp2
                                          go_ret
                                          exact ⟨by first | rfl | (simp [errW_none, errW_some] <;> rfl) | (simp [*, errW_none, errW_some] <;> rfl), by repeat (first | (with_reducible first | exact HB.out | apply below_alloc | apply pw_below_drewN | apply below_drew1) | exact HB.out)⟩
                                        · replace c63 := Bool.eq_false_iff.mpr c63
                                          subst c63
                                          have H1 : (if a3 < 0 then (ferrulelaw13_tells.j6 kj55 l0 a2 a3 t254 t255 true) else (ferrulelaw13_tells.j6 kj55 l0 a2 a3 t254 t255 (decide (a3 ≥ 64)))) = some r := by rw [if_neg (show ¬ (false = true) by decide)] at H; exact H
                                          clear H
                                          have H := H1
                                          clear H1
                                          have HC64 := Aside0.mk H
                                          clear H
                                          go_upto_region 22 with (fail)
                                          go_cut [150] (fun v150 wc => ∃ (kq : Nat) (x150_63 : Bool), v150 = .bool x150_63 ∧ Aside0 (ferrulelaw13_tells.j6 kq l0 a2 a3 t254 t255 x150_63 = some r) ∧ Aside0 (kq ≤ kj55) ∧ Aside0 (Kd.R k35 35 wc w.heap.size (fun _ => True) v256 t254) ∧ Aside0 (Kd.C k35 wc Ao20 y242.length y242) ∧ Aside0 (Below w.heap.size w wc))
                                          case first =>
                                            have H := HC64.out
                                            clear HC64
                                            by_cases c65 : a3 < 0
                                            · rw [if_pos c65] at H
                                              have c65b0 : decide (a3 < 0) = true := decide_eq_true c65
                                              clear c65
                                              (first | rw [c65b0] | (simp only [i64_w, i32_w]; rw [c65b0]) | skip)
                                              have H' := Aside0.mk H
                                              clear H
                                              go_wp2
                                              go_meet
                                              case rel => exact ⟨_, (true), (by first | rfl | (simp; done) | (simp [*]; done)), H', ⟨by have := HJ13.out; have := HJ27.out; have := HJ32.out; have := HJ48.out; have := HK5.out; have := HJ55.out; first | omega | exact Nat.le_refl _⟩, ⟨by (with_reducible repeat (first | apply Kd.R_alloc | apply Kd.R_drewN | apply Kd.R_drew)); exact HO_14.out⟩, ⟨by repeat (first | (with_reducible exact HR245.out) | (with_reducible refine Kd.C_alloc ?_ _) | (with_reducible refine Kd.C_drewN ?_ _) | (with_reducible refine Kd.C_drew ?_) | exact HR245.out)⟩, ⟨by repeat (first | (with_reducible first | exact HB.out | apply below_alloc | apply pw_below_drewN | apply below_drew1) | exact HB.out)⟩⟩
                                            · rw [if_neg c65] at H
                                              have c65b0 : decide (a3 < 0) = false := decide_eq_false c65
                                              clear c65
                                              (first | rw [c65b0] | (simp only [i64_w, i32_w]; rw [c65b0]) | skip)
                                              have H' := Aside0.mk H
                                              clear H
                                              go_wp2
                                              go_meet
                                              case rel => exact ⟨_, (decide (a3 ≥ 64)), (by first | rfl | (simp; done) | (simp [*]; done)), H', ⟨by have := HJ13.out; have := HJ27.out; have := HJ32.out; have := HJ48.out; have := HK5.out; have := HJ55.out; first | omega | exact Nat.le_refl _⟩, ⟨by (with_reducible repeat (first | apply Kd.R_alloc | apply Kd.R_drewN | apply Kd.R_drew)); exact HO_14.out⟩, ⟨by repeat (first | (with_reducible exact HR245.out) | (with_reducible refine Kd.C_alloc ?_ _) | (with_reducible refine Kd.C_drewN ?_ _) | (with_reducible refine Kd.C_drew ?_) | exact HR245.out)⟩, ⟨by repeat (first | (with_reducible first | exact HB.out | apply below_alloc | apply pw_below_drewN | apply below_drew1) | exact HB.out)⟩⟩
                                          case rest =>
                                            clear HC64
                                            try clear c1
                                            try clear q1
                                            try clear c2
                                            try clear p2
                                            try clear q2
                                            try clear hx2
                                            try clear c3
                                            try clear c4
                                            try clear c5
                                            try clear c6
                                            try clear p6
                                            try clear c7
                                            try clear c7b0
                                            try clear c7b1
                                            try clear c8
                                            try clear c8b0
                                            try clear c8b1
                                            try clear c9
                                            try clear c11
                                            try clear c13
                                            try clear c16
                                            try clear c19
                                            try clear q19
                                            try clear c24
                                            try clear c24b0
                                            try clear c25
                                            try clear c25b0
                                            try clear p26
                                            try clear q26
                                            try clear hx26
                                            try clear c29
                                            try clear c30
                                            try clear c30b0
                                            try clear c31
                                            try clear c31b0
                                            try clear c34
                                            try clear c35
                                            try clear c35b0
                                            try clear c35b1
                                            try clear c36
                                            try clear c36b0
                                            try clear c36b1
                                            try clear c36b2
                                            try clear c39
                                            try clear c39b0
                                            try clear c39b1
                                            try clear c42
                                            try clear c50
                                            try clear c52
                                            try clear c52b0
                                            try clear c53
                                            try clear c54
                                            try clear c54b0
                                            try clear c55
                                            try clear c57
                                            try clear c57b0
                                            try clear c57b1
                                            try clear c63
                                            try clear p64
                                            try clear c65
                                            try clear c65b0
                                            try clear hx266_0
                                            try clear hx266_1
                                            try clear hx266_2
                                            try clear p2
                                            try clear p26
                                            try clear p266
                                            try clear p6
                                            try clear q1
                                            try clear q19
                                            try clear q2
                                            try clear q26
                                            try clear q266
                                            obtain ⟨kq, x150_63, rfl, HA, HJ63, HO_14, HR245, HB⟩ := hcut
                                            cases kq with
                                            | zero => exact absurd HA.out (by simp [ferrulelaw13_tells.j6])
                                            | succ kj63 =>
                                              have H := HA.out
                                              clear HA
                                              simp only [ferrulelaw13_tells.j6] at H
                                              by_cases c66 : x150_63 = true
                                              · subst c66
                                                have H1 : (if t255 = 1 then (some ((t254.length : Int) == 0)) else (some false)) = some r := by rw [if_pos rfl] at H; exact H
                                                clear H
                                                have H := H1
                                                clear H1
                                                by_cases c67 : t255 = 1
                                                · rw [if_pos c67] at H
                                                  have c67b0 : (t255 == 1) = true := beq_iff_eq.mpr c67
                                                  have c67b1 : (t255 != 1) = false := bne_eq_false_iff_eq.mpr c67
                                                  clear c67
                                                  obtain rfl := Option.some.inj H
                                                  obtain ⟨Ao68, co68, eo68⟩ := Kd.R_slice HO_14.out
                                                  subst eo68
                                                  go_wp2
                                                  go_ret
                                                  exact ⟨by first | rfl | (simp [errW_none, errW_some] <;> rfl) | (simp [*, errW_none, errW_some] <;> rfl), by repeat (first | (with_reducible first | exact HB.out | apply below_alloc | apply pw_below_drewN | apply below_drew1) | exact HB.out)⟩
                                                · rw [if_neg c67] at H
                                                  have c67b0 : (t255 == 1) = false := beq_eq_false_iff_ne.mpr c67
                                                  have c67b1 : (t255 != 1) = true := bne_iff_ne.mpr c67
                                                  obtain rfl := Option.some.inj H
                                                  go_wp2
                                                  go_ret
                                                  exact ⟨by first | rfl | (simp [errW_none, errW_some] <;> rfl) | (simp [*, errW_none, errW_some] <;> rfl), by repeat (first | (with_reducible first | exact HB.out | apply below_alloc | apply pw_below_drewN | apply below_drew1) | exact HB.out)⟩
                                              · replace c66 := Bool.eq_false_iff.mpr c66
                                                subst c66
                                                have H1 : (if t255 = 0 then ((ferruleref13_Moves.f kj63 l0 a3 a2).bind fun t271 => ((ferruleref9_Same.f kj63 t254 t271).bind fun t274 => (some t274))) else (some false)) = some r := by rw [if_neg (show ¬ (false = true) by decide)] at H; exact H
                                                clear H
                                                have H := H1
                                                clear H1
                                                by_cases c69 : t255 = 0
                                                · rw [if_pos c69] at H
                                                  have c69b0 : (t255 == 0) = true := beq_iff_eq.mpr c69
                                                  have c69b1 : (t255 != 0) = false := bne_eq_false_iff_eq.mpr c69
                                                  clear c69
                                                  replace H := Option.bind_eq_some_iff.mp H
                                                  obtain ⟨t271, A700, H⟩ := H
                                                  replace H : ((ferruleref9_Same.f kj63 t254 t271).bind fun t274 => (some t274)) = some r := H
                                                  have A70 := Aside0.mk A700
                                                  clear A700
                                                  replace H := Option.bind_eq_some_iff.mp H
                                                  obtain ⟨t274, A710, H⟩ := H
                                                  replace H : (some t274) = some r := H
                                                  have A71 := Aside0.mk A710
                                                  clear A710
                                                  obtain rfl := Option.some.inj H
                                                  go_wp2_with (first | (go_at_call 25; (with_reducible refine (ferruleref13_Moves.calls kj63 _ _ l0 a3 a2 t271 _ ?side1 ?side2 A70.out).mono ?_); (case side1 => repeat (first | exact (Kd.C_below HR0.out HB.out) | (with_reducible refine Kd.C_alloc ?_ _) | (with_reducible refine Kd.C_drewN ?_ _) | (with_reducible refine Kd.C_drew ?_))); (case side2 => exact HC0.out); rintro e w72 ⟨v272, rfl, ho0, hb⟩; have n0_ := Aside0.mk (Kd.R_elder' (by (with_reducible repeat (first | apply Kd.R_alloc | apply Kd.R_drewN | apply Kd.R_drew)); exact HO_14.out) (Kd.R_base ho0) hb); have n1_ := Aside0.mk (Kd.R_lower (Kd.R_new' ho0 (Kd.R_lt (by (with_reducible repeat (first | apply Kd.R_alloc | apply Kd.R_drewN | apply Kd.R_drew)); exact HO_14.out))) (below_size (by repeat (first | (with_reducible first | exact HB.out | apply below_alloc | apply pw_below_drewN | apply below_drew1) | exact HB.out)))); have n2_ := Aside0.mk (Kd.C_below (by repeat (first | (with_reducible exact HR245.out) | (with_reducible refine Kd.C_alloc ?_ _) | (with_reducible refine Kd.C_drewN ?_ _) | (with_reducible refine Kd.C_drew ?_) | exact HR245.out)) hb); have n3_ := Aside0.mk (below_step (by repeat (first | (with_reducible first | exact HB.out | apply below_alloc | apply pw_below_drewN | apply below_drew1) | exact HB.out)) hb); clear HO_14; clear HR245; clear HB; have HO_14 := n0_; have HO273 := n1_; have HR245 := n2_; have HB := n3_; clear n0_ n1_ n2_ n3_; (try clear hb); (try clear hb2); (try clear hk); (try clear hi); (try clear ho0); obtain ⟨Ao73, co73, eo73⟩ := Kd.R_slice HO_14.out; subst eo73; obtain ⟨Ao74, co74, eo74⟩ := Kd.R_slice HO273.out; subst eo74) | (go_at_call 16; (with_reducible refine (ferruleref9_Same.calls kj63 _ _ t254 _ _ t271 t274 _ ?side1 ?side2 ?side3 ?side4 A71.out).mono ?_); (case side1 => repeat (first | exact (Kd.R_reads' HO_14.out).2.2 | (with_reducible refine Kd.C_alloc ?_ _) | (with_reducible refine Kd.C_drewN ?_ _) | (with_reducible refine Kd.C_drew ?_))); (case side2 => exact (Kd.R_reads' HO_14.out).2.1); (case side3 => repeat (first | exact (Kd.R_reads' HO273.out).2.2 | (with_reducible refine Kd.C_alloc ?_ _) | (with_reducible refine Kd.C_drewN ?_ _) | (with_reducible refine Kd.C_drew ?_))); (case side4 => exact (Kd.R_reads' HO273.out).2.1); rintro e w' ⟨rfl, ⟨nd, rfl⟩⟩))
                                                  go_ret
                                                  exact ⟨by first | rfl | (simp [errW_none, errW_some] <;> rfl) | (simp [*, errW_none, errW_some] <;> rfl), by repeat (first | (with_reducible first | exact HB.out | apply below_alloc | apply pw_below_drewN | apply below_drew1) | exact HB.out)⟩
                                                · rw [if_neg c69] at H
                                                  have c69b0 : (t255 == 0) = false := beq_eq_false_iff_ne.mpr c69
                                                  have c69b1 : (t255 != 0) = true := bne_iff_ne.mpr c69
                                                  obtain rfl := Option.some.inj H
                                                  go_wp2
                                                  go_ret
                                                  exact ⟨by first | rfl | (simp [errW_none, errW_some] <;> rfl) | (simp [*, errW_none, errW_some] <;> rfl), by repeat (first | (with_reducible first | exact HB.out | apply below_alloc | apply pw_below_drewN | apply below_drew1) | exact HB.out)⟩
                                  · replace c55 := Bool.eq_false_iff.mpr c55
                                    subst c55
                                    have H1 : (if t251 = 1 then (if t255 = 1 then (if (t250.length : Int) = 0 then (some ((t254.length : Int) == 0)) else (some false)) else (some false)) else (some false)) = some r := by rw [if_neg (show ¬ (false = true) by decide)] at H; exact H
                                    clear H
                                    have H := H1
                                    clear H1
                                    by_cases c75 : t251 = 1
                                    · rw [if_pos c75] at H
                                      have c75b0 : (t251 == 1) = true := beq_iff_eq.mpr c75
                                      have c75b1 : (t251 != 1) = false := bne_eq_false_iff_eq.mpr c75
                                      clear c75
                                      by_cases c76 : t255 = 1
                                      · rw [if_pos c76] at H
                                        have c76b0 : (t255 == 1) = true := beq_iff_eq.mpr c76
                                        have c76b1 : (t255 != 1) = false := bne_eq_false_iff_eq.mpr c76
                                        clear c76
                                        by_cases c77 : (t250.length : Int) = 0
                                        · rw [if_pos c77] at H
                                          have c77b0 : ((t250.length : Int) == 0) = true := beq_iff_eq.mpr c77
                                          have c77b1 : ((t250.length : Int) != 0) = false := bne_eq_false_iff_eq.mpr c77
                                          clear c77
                                          obtain rfl := Option.some.inj H
                                          obtain ⟨Ao78, co78, eo78⟩ := Kd.R_slice HO_12.out
                                          subst eo78
                                          obtain ⟨Ao79, co79, eo79⟩ := Kd.R_slice HO_14.out
                                          subst eo79
                                          go_wp2
                                          go_ret
                                          exact ⟨by first | rfl | (simp [errW_none, errW_some] <;> rfl) | (simp [*, errW_none, errW_some] <;> rfl), by repeat (first | (with_reducible first | exact HB.out | apply below_alloc | apply pw_below_drewN | apply below_drew1) | exact HB.out)⟩
                                        · rw [if_neg c77] at H
                                          have c77b0 : ((t250.length : Int) == 0) = false := beq_eq_false_iff_ne.mpr c77
                                          have c77b1 : ((t250.length : Int) != 0) = true := bne_iff_ne.mpr c77
                                          have c77b2 : ¬ (t250 = []) := fun h_ => c77 (by rw [h_]; rfl)
                                          obtain rfl := Option.some.inj H
                                          obtain ⟨Ao80, co80, eo80⟩ := Kd.R_slice HO_12.out
                                          subst eo80
                                          go_wp2
                                          go_ret
                                          exact ⟨by first | rfl | (simp [errW_none, errW_some] <;> rfl) | (simp [*, errW_none, errW_some] <;> rfl), by repeat (first | (with_reducible first | exact HB.out | apply below_alloc | apply pw_below_drewN | apply below_drew1) | exact HB.out)⟩
                                      · rw [if_neg c76] at H
                                        have c76b0 : (t255 == 1) = false := beq_eq_false_iff_ne.mpr c76
                                        have c76b1 : (t255 != 1) = true := bne_iff_ne.mpr c76
                                        obtain rfl := Option.some.inj H
                                        go_wp2
                                        go_ret
                                        exact ⟨by first | rfl | (simp [errW_none, errW_some] <;> rfl) | (simp [*, errW_none, errW_some] <;> rfl), by repeat (first | (with_reducible first | exact HB.out | apply below_alloc | apply pw_below_drewN | apply below_drew1) | exact HB.out)⟩
                                    · rw [if_neg c75] at H
                                      have c75b0 : (t251 == 1) = false := beq_eq_false_iff_ne.mpr c75
                                      have c75b1 : (t251 != 1) = true := bne_iff_ne.mpr c75
                                      obtain rfl := Option.some.inj H
                                      go_wp2
                                      go_ret
                                      exact ⟨by first | rfl | (simp [errW_none, errW_some] <;> rfl) | (simp [*, errW_none, errW_some] <;> rfl), by repeat (first | (with_reducible first | exact HB.out | apply below_alloc | apply pw_below_drewN | apply below_drew1) | exact HB.out)⟩
          · replace c13 := Bool.eq_false_iff.mpr c13
            subst c13
            have H1 : (some false) = some r := by rw [if_neg (show ¬ (false = true) by decide)] at H; exact H
            clear H
            have H := H1
            clear H1
            obtain rfl := Option.some.inj H
            go_enter Try.func13, Try.ntmps13
            go_wp2_with (first | ((with_reducible refine gate_dst (N := 18) rfl ?_); (try (refine gate_guard (by rfl) ?_; dsimp only)); refine Kd.R_lit k35 _ 35 ?hg (N := 18) ?hd (xs := ([] : List (S35))) (inner := []) (ok := fun _ => True) (okp := fun _ => True) ?hr ?hp (fun _ hk => hk) trivial (Below.refl _ _) (Nat.le_refl _) (by simp) ?_; (case hd => rfl); (case hg => rfl); (case hr => first | (go_simp; done) | (go_simp; rfl)); (case hp => exact (Reps.none _ _)); intro v234 w81 ho82 hb hg_ hnew_; clear hg_ hnew_; (first | rw [← Ny233.out] at ho82 | (simp only [Int.reduceToNat] at ho82; rw [← Ny233.out] at ho82)); have n0_ := Aside0.mk (Kd.R_lower ho82 (below_size (by repeat (first | (with_reducible first | exact HB.out | apply below_alloc | apply pw_below_drewN | apply below_drew1) | exact HB.out)))); have n1_ := Aside0.mk (below_step (by repeat (first | (with_reducible first | exact HB.out | apply below_alloc | apply pw_below_drewN | apply below_drew1) | exact HB.out)) hb); clear HB; have HO235 := n0_; have HB := n1_; clear n0_ n1_; clear hb ho82) | ((with_reducible refine gate_builtin (b := .append) (xs := #[.tmp 18, .tmp 19]) rfl ?_); (try (refine gate_guard (by rfl) ?_; dsimp only)); at_builtin; refine Kd.R_append_rows k35 (w0 := w) w.heap.size rfl (.tmp 18) (.tmp 19) 27 35 (.agg #[(.int .i64 0), (.int .i64 0), (.int .i64 0)]) 24 rfl Try.underlying27 info35 rfl (by decide) (by omega) v234 y233 l0 _ _ _ (fun _ => True) (fun _ => False) rfl rfl ?aO ?aR (fun _ _ h => h) (fun _ h => h.elim) ?aF ?aB ?aS ?aL ?_; (case aR => repeat (first | exact (Kd.C_below HR0.out HB.out) | (with_reducible refine Kd.C_alloc ?_ _) | (with_reducible refine Kd.C_drewN ?_ _) | (with_reducible refine Kd.C_drew ?_))); (case aB => exact (by repeat (first | (with_reducible first | exact HB.out | apply below_alloc | apply pw_below_drewN | apply below_drew1) | exact HB.out))); (case aF => exact (fun _ _ => trivial)); (case aO => exact (by (with_reducible repeat (first | apply Kd.R_alloc | apply Kd.R_drewN | apply Kd.R_drew)); exact HO235.out)); (case aS => exact (below_size (by repeat (first | (with_reducible first | exact HB.out | apply below_alloc | apply pw_below_drewN | apply below_drew1) | exact HB.out)))); (case aL => have := LMc5.out; omega); intro v237 w83 ho hb hg hat; rw [← Ny236.out] at ho; have n0_ := Aside0.mk (hb); have n1_ := Aside0.mk (ho); clear HB; clear HO235; have HB := n0_; have HO238 := n1_; clear n0_ n1_; clear ho hb hg hat) | ((with_reducible refine gate_builtin (b := .append) (xs := #[.tmp 20, .tmp 22]) rfl ?_); (try (refine gate_guard (by rfl) ?_; dsimp only)); at_builtin; refine Kd.R_append k35 (w0 := w) w.heap.size rfl (.tmp 20) (.tmp 22) 27 35 (.agg #[(.int .i64 0), (.int .i64 0), (.int .i64 0)]) 24 rfl Try.underlying27 info35 rfl (by decide) (by omega) v237 y236 (⟨9, 0, 0⟩ : S35) [.int .i64 9, .int .i64 0, .int .i64 0] (fun _ => True) (fun _ => False) rfl rfl ?aP (fun _ hk => hk.elim) ?aF ?aO ?aB ?aS ?aL ?_; (case aP => exact k35_mkM _ _ _ (⟨9, 0, 0⟩ : S35)); (case aB => exact (by repeat (first | (with_reducible first | exact HB.out | apply below_alloc | apply pw_below_drewN | apply below_drew1) | exact HB.out))); (case aF => exact (fun _ _ => trivial)); (case aO => exact (by (with_reducible repeat (first | apply Kd.R_alloc | apply Kd.R_drewN | apply Kd.R_drew)); exact HO238.out)); (case aS => exact (below_size (by repeat (first | (with_reducible first | exact HB.out | apply below_alloc | apply pw_below_drewN | apply below_drew1) | exact HB.out)))); (case aL => have := LMc6.out; omega); intro v240 w84 ho hb hg hat; rw [← Ny239.out] at ho; have n0_ := Aside0.mk (hb); have n1_ := Aside0.mk (ho); clear HB; clear HO238; have HB := n0_; have HO241 := n1_; clear n0_ n1_; clear ho hb hg hat; obtain ⟨Ao86, co86, eo86⟩ := Kd.R_slice HO241.out; subst eo86; have q85 : ((l0.length : Int) : Int) ≤ ((y239.length : Int) : Int) := of_decide_eq_true (by first | (with_reducible assumption) | assumption); obtain ⟨i085, hi085, _, hsz85, _⟩ := info_parts info35; have hroom85 : y239.length ≤ co86 := (Kd.R_reads' HO241.out).2.1; have hC85 : Kd.C k35 _ Ao86 y239.length y239 := (Kd.R_reads' HO241.out).2.2; have hcut85 := cut_to (P := Try.prog) 27 35 .i64 Try.underlying27 hi085 Ao86 y239.length co86 (l0.length : Int) (of_decide_eq_true (by first | (with_reducible assumption) | assumption)) q85 hroom85; have hr85 := Kd.C_take (m := ((l0.length : Int) : Int).toNat) hC85 (by omega); have hy85 : y242.length = ((l0.length : Int) : Int).toNat := (by rw [Ny242.out, List.length_take]; omega); rw [← Ny242.out] at hr85; rw [← hy85] at hcut85; have HR245 := Aside0.mk hr85; have HC245 := Aside0.mk (show y242.length ≤ co86 from by omega); clear hr85 hC85 hroom85 hi085 hsz85; have KY85 := Aside0.mk hy85; clear hy85; have KL85 := Aside0.mk (show ((l0.length : Int) : Int).toNat ≤ y239.length from by omega); replace q85 := eq_true q85) | ((with_reducible refine gate_callee (f := 9) rfl ?_); refine goesL_ (some 31) rfl rfl Try.func9 (by kernel_rfl) rfl #[.slice Ao86 y242.length co86, .int .i64 a1, .int .i64 a2] rfl (by (try simp only [List.map_toArray, List.map_cons, List.map_nil]); first | done | rfl | (simp only [List.length_drop, List.length_take]; rfl)) ?_; (with_reducible refine (blocks_Valid.calls k _ _ y242 a1 a2 t246 t247 _ ?side1 ?side2 A9.out).mono ?_); (case side1 => repeat (first | exact (by repeat (first | (with_reducible exact HR245.out) | (with_reducible refine Kd.C_alloc ?_ _) | (with_reducible refine Kd.C_drewN ?_ _) | (with_reducible refine Kd.C_drew ?_) | exact HR245.out)) | (with_reducible refine Kd.C_alloc ?_ _) | (with_reducible refine Kd.C_drewN ?_ _) | (with_reducible refine Kd.C_drew ?_))); (case side2 => exact HC245.out); rintro e w87 ⟨v248, rfl, ho0, hb⟩; refine ⟨_, rfl, ?_⟩; have n0_ := Aside0.mk (Kd.R_below (by (with_reducible repeat (first | apply Kd.R_alloc | apply Kd.R_drewN | apply Kd.R_drew)); exact HO241.out) hb); have n1_ := Aside0.mk (Kd.R_lower ho0 (below_size (by repeat (first | (with_reducible first | exact HB.out | apply below_alloc | apply pw_below_drewN | apply below_drew1) | exact HB.out)))); have n2_ := Aside0.mk (Kd.C_below (by repeat (first | (with_reducible exact HR245.out) | (with_reducible refine Kd.C_alloc ?_ _) | (with_reducible refine Kd.C_drewN ?_ _) | (with_reducible refine Kd.C_drew ?_) | exact HR245.out)) hb); have n3_ := Aside0.mk (below_step (by repeat (first | (with_reducible first | exact HB.out | apply below_alloc | apply pw_below_drewN | apply below_drew1) | exact HB.out)) hb); clear HO241; clear HR245; clear HB; have HO241 := n0_; have HO249 := n1_; have HR245 := n2_; have HB := n3_; clear n0_ n1_ n2_ n3_; (try clear hb); (try clear hb2); (try clear hk); (try clear hi); (try clear ho0)) | ((with_reducible refine gate_callee (f := 19) rfl ?_); refine goesL_ (some 37) rfl rfl Try.func19 (by kernel_rfl) rfl #[.slice Ao86 y242.length co86, .int .i64 a2] rfl (by (try simp only [List.map_toArray, List.map_cons, List.map_nil]); first | done | rfl | (simp only [List.length_drop, List.length_take]; rfl)) ?_; (with_reducible refine (blocks_Split.calls k _ _ y242 a2 t250 t251 _ ?side1 ?side2 A10.out).mono ?_); (case side1 => repeat (first | exact (by repeat (first | (with_reducible exact HR245.out) | (with_reducible refine Kd.C_alloc ?_ _) | (with_reducible refine Kd.C_drewN ?_ _) | (with_reducible refine Kd.C_drew ?_) | exact HR245.out)) | (with_reducible refine Kd.C_alloc ?_ _) | (with_reducible refine Kd.C_drewN ?_ _) | (with_reducible refine Kd.C_drew ?_))); (case side2 => exact HC245.out); rintro e w88 ⟨v252, rfl, ho0, hb⟩; refine ⟨_, rfl, ?_⟩; have n0_ := Aside0.mk (Kd.R_elder' (by (with_reducible repeat (first | apply Kd.R_alloc | apply Kd.R_drewN | apply Kd.R_drew)); exact HO241.out) (Kd.R_base ho0) hb); have n1_ := Aside0.mk (Kd.R_below (by (with_reducible repeat (first | apply Kd.R_alloc | apply Kd.R_drewN | apply Kd.R_drew)); exact HO249.out) hb); have n2_ := Aside0.mk (Kd.R_lower (Kd.R_new' ho0 (Kd.R_lt (by (with_reducible repeat (first | apply Kd.R_alloc | apply Kd.R_drewN | apply Kd.R_drew)); exact HO241.out))) (below_size (by repeat (first | (with_reducible first | exact HB.out | apply below_alloc | apply pw_below_drewN | apply below_drew1) | exact HB.out)))); have n3_ := Aside0.mk (Kd.C_below (by repeat (first | (with_reducible exact HR245.out) | (with_reducible refine Kd.C_alloc ?_ _) | (with_reducible refine Kd.C_drewN ?_ _) | (with_reducible refine Kd.C_drew ?_) | exact HR245.out)) hb); have n4_ := Aside0.mk (below_step (by repeat (first | (with_reducible first | exact HB.out | apply below_alloc | apply pw_below_drewN | apply below_drew1) | exact HB.out)) hb); clear HO241; clear HO249; clear HR245; clear HB; have HO241 := n0_; have HO249 := n1_; have HO253 := n2_; have HR245 := n3_; have HB := n4_; clear n0_ n1_ n2_ n3_ n4_; (try clear hb); (try clear hb2); (try clear hk); (try clear hi); (try clear ho0)) | ((with_reducible refine gate_callee (f := 11) rfl ?_); refine goesL_ (some 44) rfl rfl Try.func11 (by kernel_rfl) rfl #[.slice Ao86 y242.length co86, .int .i64 a3, .int .i64 a2] rfl (by (try simp only [List.map_toArray, List.map_cons, List.map_nil]); first | done | rfl | (simp only [List.length_drop, List.length_take]; rfl)) ?_; (with_reducible refine (blocks_Moves.calls k _ _ y242 a3 a2 t254 t255 _ ?side1 ?side2 A11.out).mono ?_); (case side1 => repeat (first | exact (by repeat (first | (with_reducible exact HR245.out) | (with_reducible refine Kd.C_alloc ?_ _) | (with_reducible refine Kd.C_drewN ?_ _) | (with_reducible refine Kd.C_drew ?_) | exact HR245.out)) | (with_reducible refine Kd.C_alloc ?_ _) | (with_reducible refine Kd.C_drewN ?_ _) | (with_reducible refine Kd.C_drew ?_))); (case side2 => exact HC245.out); rintro e w89 ⟨v256, rfl, ho0, hb⟩; refine ⟨_, rfl, ?_⟩; have n0_ := Aside0.mk (Kd.R_elder' (by (with_reducible repeat (first | apply Kd.R_alloc | apply Kd.R_drewN | apply Kd.R_drew)); exact HO241.out) (Kd.R_base ho0) hb); have n1_ := Aside0.mk (Kd.R_below (by (with_reducible repeat (first | apply Kd.R_alloc | apply Kd.R_drewN | apply Kd.R_drew)); exact HO249.out) hb); have n2_ := Aside0.mk (Kd.R_elder' (by (with_reducible repeat (first | apply Kd.R_alloc | apply Kd.R_drewN | apply Kd.R_drew)); exact HO253.out) (Kd.R_base ho0) hb); have n3_ := Aside0.mk (Kd.R_lower (Kd.R_new' (Kd.R_new' ho0 (Kd.R_lt (by (with_reducible repeat (first | apply Kd.R_alloc | apply Kd.R_drewN | apply Kd.R_drew)); exact HO241.out))) (Kd.R_lt (by (with_reducible repeat (first | apply Kd.R_alloc | apply Kd.R_drewN | apply Kd.R_drew)); exact HO253.out))) (below_size (by repeat (first | (with_reducible first | exact HB.out | apply below_alloc | apply pw_below_drewN | apply below_drew1) | exact HB.out)))); have n4_ := Aside0.mk (Kd.C_below (by repeat (first | (with_reducible exact HR245.out) | (with_reducible refine Kd.C_alloc ?_ _) | (with_reducible refine Kd.C_drewN ?_ _) | (with_reducible refine Kd.C_drew ?_) | exact HR245.out)) hb); have n5_ := Aside0.mk (below_step (by repeat (first | (with_reducible first | exact HB.out | apply below_alloc | apply pw_below_drewN | apply below_drew1) | exact HB.out)) hb); clear HO241; clear HO249; clear HO253; clear HR245; clear HB; have HO241 := n0_; have HO249 := n1_; have HO253 := n2_; have HO257 := n3_; have HR245 := n4_; have HB := n5_; clear n0_ n1_ n2_ n3_ n4_ n5_; (try clear hb); (try clear hb2); (try clear hk); (try clear hi); (try clear ho0)) | ((with_reducible refine gate_callee (f := 16) rfl ?_); refine goesL_ (some 49) rfl rfl Try.func16 (by kernel_rfl) rfl #[.slice Ao86 y242.length co86, .slice A0 l0.length c0] rfl (by (try simp only [List.map_toArray, List.map_cons, List.map_nil]); first | done | rfl | (simp only [List.length_drop, List.length_take]; rfl)) ?_; (with_reducible refine (ferruleref9_Same.calls k _ _ y242 _ _ l0 false _ ?side1 ?side2 ?side3 ?side4 A12.out).mono ?_); (case side1 => repeat (first | exact (by repeat (first | (with_reducible exact HR245.out) | (with_reducible refine Kd.C_alloc ?_ _) | (with_reducible refine Kd.C_drewN ?_ _) | (with_reducible refine Kd.C_drew ?_) | exact HR245.out)) | (with_reducible refine Kd.C_alloc ?_ _) | (with_reducible refine Kd.C_drewN ?_ _) | (with_reducible refine Kd.C_drew ?_))); (case side2 => exact HC245.out); (case side3 => repeat (first | exact (Kd.C_below HR0.out HB.out) | (with_reducible refine Kd.C_alloc ?_ _) | (with_reducible refine Kd.C_drewN ?_ _) | (with_reducible refine Kd.C_drew ?_))); (case side4 => exact HC0.out); rintro e w' ⟨rfl, ⟨nd, rfl⟩⟩; refine ⟨_, rfl, ?_⟩))
            go_ret
            exact ⟨by first | rfl | (simp [errW_none, errW_some] <;> rfl) | (simp [*, errW_none, errW_some] <;> rfl), by repeat (first | (with_reducible first | exact HB.out | apply below_alloc | apply pw_below_drewN | apply below_drew1) | exact HB.out)⟩
        · rw [if_neg c8] at H
          exact absurd H (by simp)
      · rw [if_neg c7] at H
        exact absurd H (by simp)
    · rw [if_neg c6] at H
      exact absurd H (by simp)
  · rw [if_neg c5] at H
    exact absurd H (by simp)

end Go.Proofs.Ytnogokemjcfaoaa.PBlocksRuns
