-- By a program of this session (NOTES.md). Lean checks it.
import Derived.Test.YtigecigoomofdaaPWindowTellsx0
import Derived.Test.YtigecigoomofdaaPWindowTellsx4
import Derived.Test.YtigecigoomofdaaPWindowTellsx5
import Derived.Test.YtigecigoomofdaaPWindowTellsx6
import Derived.Test.YtigecigoomofdaaPWindowTellsx7
import Derived.Test.YtigecigoomofdaaPWindowTellsx8
import Derived.Test.YtigecigoomofdaaPWindowTellsx9
namespace Go.Proofs.Ytigecigoomofdaa.PWindowTells
open Go.RowKit Go.Proofs.YtigecigoomofdaaW.PrintWords Go.Proofs.YtigecigoomofdaaW.PrintLast Go.Proofs.YtigecigoomofdaaW.PrintMore
attribute [local go_sem] max2_int min2_int max_two min_two max_three min_three max_four min_four   -- for this text's walks alone
set_option linter.unusedVariables false
set_option linter.unusedSimpArgs false

/-! ### ferrulelaw15_tells: function 12 -/
mutual
def ferrulelaw15_tells.j0 : Nat → List (S39) → Int → Int → Int → Int → List Int → Int → Int → Int → Int → Int → List (S38) → Int → Bool → Bool → Option (Bool)
  | 0, _, _, _, _, _, _, _, _, _, _, _, _, _, _, _ => none
  | k + 1, x0, x1, x2, x3, x4, x12, x13, x14, x15, x16, x17, x18, x19, x20, x70 => if x70 = true then (if x19 = 1 then (if (x18.length : Int) = 0 then (ferrulelaw15_tells.j1 k x0 x1 x2 x12 x13 x14 x15 x16 x17 x20) else (some false)) else (some false)) else (if x19 = 0 then ((ferruleref13_Holes.f k x0 x3 x4).bind fun t276 => ((ferruleref9_Pieces.f k x18 t276).bind fun t279 => (if t279 = true then (ferrulelaw15_tells.j1 k x0 x1 x2 x12 x13 x14 x15 x16 x17 x20) else (some false)))) else (some false))
def ferrulelaw15_tells.j1 : Nat → List (S39) → Int → Int → List Int → Int → Int → Int → Int → Int → Bool → Option (Bool)
  | 0, _, _, _, _, _, _, _, _, _, _ => none
  | k + 1, x0, x1, x2, x12, x13, x14, x15, x16, x17, x20 => if x20 = true then (if x1 < 1 then (ferrulelaw15_tells.j2 k x0 x1 x2 x12 x13 x14 x15 x16 x17 true) else (if x1 > 512 then (ferrulelaw15_tells.j2 k x0 x1 x2 x12 x13 x14 x15 x16 x17 true) else (if x2 < 1 then (ferrulelaw15_tells.j2 k x0 x1 x2 x12 x13 x14 x15 x16 x17 true) else (if x2 > x1 then (ferrulelaw15_tells.j2 k x0 x1 x2 x12 x13 x14 x15 x16 x17 true) else ((ferruleref9_Ends.f x0 x1).bind fun t280 => (ferrulelaw15_tells.j2 k x0 x1 x2 x12 x13 x14 x15 x16 x17 (!t280))))))) else (ferrulelaw15_tells.j2 k x0 x1 x2 x12 x13 x14 x15 x16 x17 true)
def ferrulelaw15_tells.j2 : Nat → List (S39) → Int → Int → List Int → Int → Int → Int → Int → Int → Bool → Option (Bool)
  | 0, _, _, _, _, _, _, _, _, _, _ => none
  | k + 1, x0, x1, x2, x12, x13, x14, x15, x16, x17, x113 => if x113 = true then (if x13 = 1 then (if x17 = 1 then (if (x12.length : Int) = 0 then (if x14 = 0 then (if x15 = 0 then (some (x16 == 0)) else (some false)) else (some false)) else (some false)) else (some false)) else (some false)) else ((ferruleref13_Many.f k x0 x1 x2).bind fun t281 => (if x13 = 0 then (if x17 = 0 then (ferrulelaw15_tells.j3 k x1 x2 x12 x14 x15 x16 t281 ((x12.length : Int) != (t281.length : Int))) else (ferrulelaw15_tells.j3 k x1 x2 x12 x14 x15 x16 t281 true)) else (ferrulelaw15_tells.j3 k x1 x2 x12 x14 x15 x16 t281 true)))
def ferrulelaw15_tells.j3 : Nat → Int → Int → List Int → Int → Int → Int → List Int → Bool → Option (Bool)
  | 0, _, _, _, _, _, _, _, _ => none
  | k + 1, x1, x2, x12, x14, x15, x16, x21, x153 => if x153 = true then (some false) else (ferrulelaw15_tells.l0 k x1 x2 x12 x14 x15 x16 x21 0 0)
def ferrulelaw15_tells.l0 : Nat → Int → Int → List Int → Int → Int → Int → List Int → Int → Int → Option (Bool)
  | 0, _, _, _, _, _, _, _, _, _ => none
  | k + 1, x1, x2, x12, x14, x15, x16, x21, x22, x23 => if x23 < (x21.length : Int) then (if 0 ≤ x23 then (if x23 < (x12.length : Int) then (if (rd x12 x23) = (rd x21 x23) then (if 0 ≤ x22 then (if x22 < (x21.length : Int) then (if (rd x21 x23) > (rd x21 x22) then (ferrulelaw15_tells.l0 k x1 x2 x12 x14 x15 x16 x21 x23 (wrap64 (x23 + 1))) else (ferrulelaw15_tells.l0 k x1 x2 x12 x14 x15 x16 x21 x22 (wrap64 (x23 + 1)))) else (none)) else (none)) else (some false)) else (none)) else (none)) else (if (wrap64 (x1 - (wrap64 (x22 * x2)))) < x2 then (if x14 = (wrap64 (x22 * x2)) then (if x15 = (wrap64 (x1 - (wrap64 (x22 * x2)))) then (if 0 ≤ x22 then (if x22 < (x21.length : Int) then (some (x16 == (rd x21 x22))) else (none)) else (none)) else (some false)) else (some false)) else (if x14 = (wrap64 (x22 * x2)) then (if x15 = x2 then (if 0 ≤ x22 then (if x22 < (x21.length : Int) then (some (x16 == (rd x21 x22))) else (none)) else (none)) else (some false)) else (some false)))
end
def ferrulelaw15_tells.f (k : Nat) (l0 : List (S39)) (a1 : Int) (a2 : Int) (a3 : Int) (a4 : Int) : Option (Bool) := (some (([] : List (S39)) : List (S39))).bind fun y248 => (if y248.length + l0.length < 5864062014805 then ((some (y248 ++ l0 : List (S39))).bind fun y251 => (if y251.length < 5864062014805 then ((some (y251 ++ [(⟨9, 0, 0⟩ : S39)] : List (S39))).bind fun y254 => (if 0 ≤ (l0.length : Int) then (if (l0.length : Int) ≤ (y254.length : Int) then ((some (y254.take ((l0.length : Int) : Int).toNat : List (S39))).bind fun y257 => ((window_Many.f k y257 a1 a2).bind fun bt261 => ((window_Richest.f k y257 a1 a2).bind fun bt265 => ((window_Holes.f k y257 a3 a4).bind fun bt269 => ((ferruleref9_Same.f k y257 l0).bind fun t273 => (if t273 = true then ((ferruleref13_Fits.f k l0).bind fun t274 => (if t274 = true then ((ferruleref9_Right.f 512 a3 a4).bind fun t275 => (ferrulelaw15_tells.j0 k l0 a1 a2 a3 a4 bt261.1 bt261.2 bt265.1 bt265.2.1 bt265.2.2.1 bt265.2.2.2 bt269.1 bt269.2 t274 (!t275))) else (ferrulelaw15_tells.j0 k l0 a1 a2 a3 a4 bt261.1 bt261.2 bt265.1 bt265.2.1 bt265.2.2.1 bt265.2.2.2 bt269.1 bt269.2 t274 true))) else (some false))))))) else (none)) else (none))) else (none))) else (none))
theorem ferrulelaw15_tells.mono_l : ∀ k, (∀ y0 y1 y2 y3 y4 y5 y6 y7 y8 y9 y10 y11 y12 y13 y14, LeO (ferrulelaw15_tells.j0 k y0 y1 y2 y3 y4 y5 y6 y7 y8 y9 y10 y11 y12 y13 y14) (ferrulelaw15_tells.j0 (k + 1) y0 y1 y2 y3 y4 y5 y6 y7 y8 y9 y10 y11 y12 y13 y14)) ∧ (∀ y0 y1 y2 y3 y4 y5 y6 y7 y8 y9, LeO (ferrulelaw15_tells.j1 k y0 y1 y2 y3 y4 y5 y6 y7 y8 y9) (ferrulelaw15_tells.j1 (k + 1) y0 y1 y2 y3 y4 y5 y6 y7 y8 y9)) ∧ (∀ y0 y1 y2 y3 y4 y5 y6 y7 y8 y9, LeO (ferrulelaw15_tells.j2 k y0 y1 y2 y3 y4 y5 y6 y7 y8 y9) (ferrulelaw15_tells.j2 (k + 1) y0 y1 y2 y3 y4 y5 y6 y7 y8 y9)) ∧ (∀ y0 y1 y2 y3 y4 y5 y6 y7, LeO (ferrulelaw15_tells.j3 k y0 y1 y2 y3 y4 y5 y6 y7) (ferrulelaw15_tells.j3 (k + 1) y0 y1 y2 y3 y4 y5 y6 y7)) ∧ (∀ y0 y1 y2 y3 y4 y5 y6 y7 y8, LeO (ferrulelaw15_tells.l0 k y0 y1 y2 y3 y4 y5 y6 y7 y8) (ferrulelaw15_tells.l0 (k + 1) y0 y1 y2 y3 y4 y5 y6 y7 y8))
  | 0 => ⟨fun _ _ _ _ _ _ _ _ _ _ _ _ _ _ _ r h => by simp [ferrulelaw15_tells.j0] at h, fun _ _ _ _ _ _ _ _ _ _ r h => by simp [ferrulelaw15_tells.j1] at h, fun _ _ _ _ _ _ _ _ _ _ r h => by simp [ferrulelaw15_tells.j2] at h, fun _ _ _ _ _ _ _ _ r h => by simp [ferrulelaw15_tells.j3] at h, fun _ _ _ _ _ _ _ _ _ r h => by simp [ferrulelaw15_tells.l0] at h⟩
  | k + 1 => by
    obtain ⟨ih0, ih1, ih2, ih3, ih4⟩ := ferrulelaw15_tells.mono_l k
    refine ⟨?_, ?_, ?_, ?_, ?_⟩
    · intro y0 y1 y2 y3 y4 y5 y6 y7 y8 y9 y10 y11 y12 y13 y14
      unfold ferrulelaw15_tells.j0
      repeat' first
      | (with_reducible exact ih0 _ _ _ _ _ _ _ _ _ _ _ _ _ _ _)
      | (with_reducible exact ih1 _ _ _ _ _ _ _ _ _ _)
      | (with_reducible exact ih2 _ _ _ _ _ _ _ _ _ _)
      | (with_reducible exact ih3 _ _ _ _ _ _ _ _)
      | (with_reducible exact ih4 _ _ _ _ _ _ _ _ _)
      | (with_reducible exact ferruleref13_Fits.mono _ _)
      | (with_reducible exact ferruleref13_Holes.mono _ _ _ _)
      | (with_reducible exact ferruleref13_Many.mono _ _ _ _)
      | (with_reducible exact ferruleref9_Pieces.mono _ _ _)
      | (with_reducible exact ferruleref9_Same.mono _ _ _)
      | (with_reducible exact window_Holes.mono _ _ _ _)
      | (with_reducible exact window_Many.mono _ _ _ _)
      | (with_reducible exact window_Richest.mono _ _ _ _)
      | (with_reducible exact LeO.refl _)
      | (with_reducible exact LeO.none _)
      | (with_reducible refine LeO.ite ?_ ?_)
      | (with_reducible refine LeO.bind ?_ (fun _ => ?_))
      | exact ih0 _ _ _ _ _ _ _ _ _ _ _ _ _ _ _
      | exact ih1 _ _ _ _ _ _ _ _ _ _
      | exact ih2 _ _ _ _ _ _ _ _ _ _
      | exact ih3 _ _ _ _ _ _ _ _
      | exact ih4 _ _ _ _ _ _ _ _ _
      | exact ferruleref13_Fits.mono _ _
      | exact ferruleref13_Holes.mono _ _ _ _
      | exact ferruleref13_Many.mono _ _ _ _
      | exact ferruleref9_Pieces.mono _ _ _
      | exact ferruleref9_Same.mono _ _ _
      | exact window_Holes.mono _ _ _ _
      | exact window_Many.mono _ _ _ _
      | exact window_Richest.mono _ _ _ _
      | exact LeO.none _
      | refine LeO.ite ?_ ?_
      | refine LeO.bind ?_ (fun _ => ?_)
    · intro y0 y1 y2 y3 y4 y5 y6 y7 y8 y9
      unfold ferrulelaw15_tells.j1
      repeat' first
      | (with_reducible exact ih0 _ _ _ _ _ _ _ _ _ _ _ _ _ _ _)
      | (with_reducible exact ih1 _ _ _ _ _ _ _ _ _ _)
      | (with_reducible exact ih2 _ _ _ _ _ _ _ _ _ _)
      | (with_reducible exact ih3 _ _ _ _ _ _ _ _)
      | (with_reducible exact ih4 _ _ _ _ _ _ _ _ _)
      | (with_reducible exact ferruleref13_Fits.mono _ _)
      | (with_reducible exact ferruleref13_Holes.mono _ _ _ _)
      | (with_reducible exact ferruleref13_Many.mono _ _ _ _)
      | (with_reducible exact ferruleref9_Pieces.mono _ _ _)
      | (with_reducible exact ferruleref9_Same.mono _ _ _)
      | (with_reducible exact window_Holes.mono _ _ _ _)
      | (with_reducible exact window_Many.mono _ _ _ _)
      | (with_reducible exact window_Richest.mono _ _ _ _)
      | (with_reducible exact LeO.refl _)
      | (with_reducible exact LeO.none _)
      | (with_reducible refine LeO.ite ?_ ?_)
      | (with_reducible refine LeO.bind ?_ (fun _ => ?_))
      | exact ih0 _ _ _ _ _ _ _ _ _ _ _ _ _ _ _
      | exact ih1 _ _ _ _ _ _ _ _ _ _
      | exact ih2 _ _ _ _ _ _ _ _ _ _
      | exact ih3 _ _ _ _ _ _ _ _
      | exact ih4 _ _ _ _ _ _ _ _ _
      | exact ferruleref13_Fits.mono _ _
      | exact ferruleref13_Holes.mono _ _ _ _
      | exact ferruleref13_Many.mono _ _ _ _
      | exact ferruleref9_Pieces.mono _ _ _
      | exact ferruleref9_Same.mono _ _ _
      | exact window_Holes.mono _ _ _ _
      | exact window_Many.mono _ _ _ _
      | exact window_Richest.mono _ _ _ _
      | exact LeO.none _
      | refine LeO.ite ?_ ?_
      | refine LeO.bind ?_ (fun _ => ?_)
    · intro y0 y1 y2 y3 y4 y5 y6 y7 y8 y9
      unfold ferrulelaw15_tells.j2
      repeat' first
      | (with_reducible exact ih0 _ _ _ _ _ _ _ _ _ _ _ _ _ _ _)
      | (with_reducible exact ih1 _ _ _ _ _ _ _ _ _ _)
      | (with_reducible exact ih2 _ _ _ _ _ _ _ _ _ _)
      | (with_reducible exact ih3 _ _ _ _ _ _ _ _)
      | (with_reducible exact ih4 _ _ _ _ _ _ _ _ _)
      | (with_reducible exact ferruleref13_Fits.mono _ _)
      | (with_reducible exact ferruleref13_Holes.mono _ _ _ _)
      | (with_reducible exact ferruleref13_Many.mono _ _ _ _)
      | (with_reducible exact ferruleref9_Pieces.mono _ _ _)
      | (with_reducible exact ferruleref9_Same.mono _ _ _)
      | (with_reducible exact window_Holes.mono _ _ _ _)
      | (with_reducible exact window_Many.mono _ _ _ _)
      | (with_reducible exact window_Richest.mono _ _ _ _)
      | (with_reducible exact LeO.refl _)
      | (with_reducible exact LeO.none _)
      | (with_reducible refine LeO.ite ?_ ?_)
      | (with_reducible refine LeO.bind ?_ (fun _ => ?_))
      | exact ih0 _ _ _ _ _ _ _ _ _ _ _ _ _ _ _
      | exact ih1 _ _ _ _ _ _ _ _ _ _
      | exact ih2 _ _ _ _ _ _ _ _ _ _
      | exact ih3 _ _ _ _ _ _ _ _
      | exact ih4 _ _ _ _ _ _ _ _ _
      | exact ferruleref13_Fits.mono _ _
      | exact ferruleref13_Holes.mono _ _ _ _
      | exact ferruleref13_Many.mono _ _ _ _
      | exact ferruleref9_Pieces.mono _ _ _
      | exact ferruleref9_Same.mono _ _ _
      | exact window_Holes.mono _ _ _ _
      | exact window_Many.mono _ _ _ _
      | exact window_Richest.mono _ _ _ _
      | exact LeO.none _
      | refine LeO.ite ?_ ?_
      | refine LeO.bind ?_ (fun _ => ?_)
    · intro y0 y1 y2 y3 y4 y5 y6 y7
      unfold ferrulelaw15_tells.j3
      repeat' first
      | (with_reducible exact ih0 _ _ _ _ _ _ _ _ _ _ _ _ _ _ _)
      | (with_reducible exact ih1 _ _ _ _ _ _ _ _ _ _)
      | (with_reducible exact ih2 _ _ _ _ _ _ _ _ _ _)
      | (with_reducible exact ih3 _ _ _ _ _ _ _ _)
      | (with_reducible exact ih4 _ _ _ _ _ _ _ _ _)
      | (with_reducible exact ferruleref13_Fits.mono _ _)
      | (with_reducible exact ferruleref13_Holes.mono _ _ _ _)
      | (with_reducible exact ferruleref13_Many.mono _ _ _ _)
      | (with_reducible exact ferruleref9_Pieces.mono _ _ _)
      | (with_reducible exact ferruleref9_Same.mono _ _ _)
      | (with_reducible exact window_Holes.mono _ _ _ _)
      | (with_reducible exact window_Many.mono _ _ _ _)
      | (with_reducible exact window_Richest.mono _ _ _ _)
      | (with_reducible exact LeO.refl _)
      | (with_reducible exact LeO.none _)
      | (with_reducible refine LeO.ite ?_ ?_)
      | (with_reducible refine LeO.bind ?_ (fun _ => ?_))
      | exact ih0 _ _ _ _ _ _ _ _ _ _ _ _ _ _ _
      | exact ih1 _ _ _ _ _ _ _ _ _ _
      | exact ih2 _ _ _ _ _ _ _ _ _ _
      | exact ih3 _ _ _ _ _ _ _ _
      | exact ih4 _ _ _ _ _ _ _ _ _
      | exact ferruleref13_Fits.mono _ _
      | exact ferruleref13_Holes.mono _ _ _ _
      | exact ferruleref13_Many.mono _ _ _ _
      | exact ferruleref9_Pieces.mono _ _ _
      | exact ferruleref9_Same.mono _ _ _
      | exact window_Holes.mono _ _ _ _
      | exact window_Many.mono _ _ _ _
      | exact window_Richest.mono _ _ _ _
      | exact LeO.none _
      | refine LeO.ite ?_ ?_
      | refine LeO.bind ?_ (fun _ => ?_)
    · intro y0 y1 y2 y3 y4 y5 y6 y7 y8
      unfold ferrulelaw15_tells.l0
      repeat' first
      | (with_reducible exact ih0 _ _ _ _ _ _ _ _ _ _ _ _ _ _ _)
      | (with_reducible exact ih1 _ _ _ _ _ _ _ _ _ _)
      | (with_reducible exact ih2 _ _ _ _ _ _ _ _ _ _)
      | (with_reducible exact ih3 _ _ _ _ _ _ _ _)
      | (with_reducible exact ih4 _ _ _ _ _ _ _ _ _)
      | (with_reducible exact ferruleref13_Fits.mono _ _)
      | (with_reducible exact ferruleref13_Holes.mono _ _ _ _)
      | (with_reducible exact ferruleref13_Many.mono _ _ _ _)
      | (with_reducible exact ferruleref9_Pieces.mono _ _ _)
      | (with_reducible exact ferruleref9_Same.mono _ _ _)
      | (with_reducible exact window_Holes.mono _ _ _ _)
      | (with_reducible exact window_Many.mono _ _ _ _)
      | (with_reducible exact window_Richest.mono _ _ _ _)
      | (with_reducible exact LeO.refl _)
      | (with_reducible exact LeO.none _)
      | (with_reducible refine LeO.ite ?_ ?_)
      | (with_reducible refine LeO.bind ?_ (fun _ => ?_))
      | exact ih0 _ _ _ _ _ _ _ _ _ _ _ _ _ _ _
      | exact ih1 _ _ _ _ _ _ _ _ _ _
      | exact ih2 _ _ _ _ _ _ _ _ _ _
      | exact ih3 _ _ _ _ _ _ _ _
      | exact ih4 _ _ _ _ _ _ _ _ _
      | exact ferruleref13_Fits.mono _ _
      | exact ferruleref13_Holes.mono _ _ _ _
      | exact ferruleref13_Many.mono _ _ _ _
      | exact ferruleref9_Pieces.mono _ _ _
      | exact ferruleref9_Same.mono _ _ _
      | exact window_Holes.mono _ _ _ _
      | exact window_Many.mono _ _ _ _
      | exact window_Richest.mono _ _ _ _
      | exact LeO.none _
      | refine LeO.ite ?_ ?_
      | refine LeO.bind ?_ (fun _ => ?_)
theorem ferrulelaw15_tells.mono : ∀ a0 a1 a2 a3 a4 k, LeO (ferrulelaw15_tells.f k a0 a1 a2 a3 a4) (ferrulelaw15_tells.f (k + 1) a0 a1 a2 a3 a4) := by
  intro a0 a1 a2 a3 a4 k
  obtain ⟨ih0, ih1, ih2, ih3, ih4⟩ := ferrulelaw15_tells.mono_l k
  unfold ferrulelaw15_tells.f
  repeat' first
      | (with_reducible exact ih0 _ _ _ _ _ _ _ _ _ _ _ _ _ _ _)
      | (with_reducible exact ih1 _ _ _ _ _ _ _ _ _ _)
      | (with_reducible exact ih2 _ _ _ _ _ _ _ _ _ _)
      | (with_reducible exact ih3 _ _ _ _ _ _ _ _)
      | (with_reducible exact ih4 _ _ _ _ _ _ _ _ _)
      | (with_reducible exact ferruleref13_Fits.mono _ _)
      | (with_reducible exact ferruleref13_Holes.mono _ _ _ _)
      | (with_reducible exact ferruleref13_Many.mono _ _ _ _)
      | (with_reducible exact ferruleref9_Pieces.mono _ _ _)
      | (with_reducible exact ferruleref9_Same.mono _ _ _)
      | (with_reducible exact window_Holes.mono _ _ _ _)
      | (with_reducible exact window_Many.mono _ _ _ _)
      | (with_reducible exact window_Richest.mono _ _ _ _)
      | (with_reducible exact LeO.refl _)
      | (with_reducible exact LeO.none _)
      | (with_reducible refine LeO.ite ?_ ?_)
      | (with_reducible refine LeO.bind ?_ (fun _ => ?_))
      | exact ih0 _ _ _ _ _ _ _ _ _ _ _ _ _ _ _
      | exact ih1 _ _ _ _ _ _ _ _ _ _
      | exact ih2 _ _ _ _ _ _ _ _ _ _
      | exact ih3 _ _ _ _ _ _ _ _
      | exact ih4 _ _ _ _ _ _ _ _ _
      | exact ferruleref13_Fits.mono _ _
      | exact ferruleref13_Holes.mono _ _ _ _
      | exact ferruleref13_Many.mono _ _ _ _
      | exact ferruleref9_Pieces.mono _ _ _
      | exact ferruleref9_Same.mono _ _ _
      | exact window_Holes.mono _ _ _ _
      | exact window_Many.mono _ _ _ _
      | exact window_Richest.mono _ _ _ _
      | exact LeO.none _
      | refine LeO.ite ?_ ?_
      | refine LeO.bind ?_ (fun _ => ?_)
set_option maxHeartbeats 8000000 in
set_option maxRecDepth 100000 in
theorem ferrulelaw15_tells.calls (k : Nat) (A0 : Option Addr) (c0 : Nat) (l0 : List (S39)) (a1 : Int) (a2 : Int) (a3 : Int) (a4 : Int) (r : Bool) (w : World) (hr0 : Kd.C k39 w A0 l0.length l0) (hc0 : l0.length ≤ c0) (h : ferrulelaw15_tells.f k l0 a1 a2 a3 a4 = some r) :
    Calls Try.prog 12 #[.slice A0 l0.length c0, .int .i64 a1, .int .i64 a2, .int .i64 a3, .int .i64 a4] w fun e w' => e = .returned (.bool r) ∧ Below w.heap.size w w' := by
  have hu39 := Try.underlying39
  have HR0 := Aside0.mk hr0
  have HC0 := Aside0.mk hc0
  clear hr0 hc0
  have HB := Aside0.mk (Below.refl w.heap.size w)
  have H : ((some (([] : List (S39)) : List (S39))).bind fun y248 => (if y248.length + l0.length < 5864062014805 then ((some (y248 ++ l0 : List (S39))).bind fun y251 => (if y251.length < 5864062014805 then ((some (y251 ++ [(⟨9, 0, 0⟩ : S39)] : List (S39))).bind fun y254 => (if 0 ≤ (l0.length : Int) then (if (l0.length : Int) ≤ (y254.length : Int) then ((some (y254.take ((l0.length : Int) : Int).toNat : List (S39))).bind fun y257 => ((window_Many.f k y257 a1 a2).bind fun bt261 => ((window_Richest.f k y257 a1 a2).bind fun bt265 => ((window_Holes.f k y257 a3 a4).bind fun bt269 => ((ferruleref9_Same.f k y257 l0).bind fun t273 => (if t273 = true then ((ferruleref13_Fits.f k l0).bind fun t274 => (if t274 = true then ((ferruleref9_Right.f 512 a3 a4).bind fun t275 => (ferrulelaw15_tells.j0 k l0 a1 a2 a3 a4 bt261.1 bt261.2 bt265.1 bt265.2.1 bt265.2.2.1 bt265.2.2.2 bt269.1 bt269.2 t274 (!t275))) else (ferrulelaw15_tells.j0 k l0 a1 a2 a3 a4 bt261.1 bt261.2 bt265.1 bt265.2.1 bt265.2.2.1 bt265.2.2.2 bt269.1 bt269.2 t274 true))) else (some false))))))) else (none)) else (none))) else (none))) else (none))) = some r := h
  clear h
  obtain ⟨y248, hy248⟩ : ∃ y_ : List (S39), y_ = (([] : List (S39))) := ⟨_, rfl⟩
  replace H : (if y248.length + l0.length < 5864062014805 then ((some (y248 ++ l0 : List (S39))).bind fun y251 => (if y251.length < 5864062014805 then ((some (y251 ++ [(⟨9, 0, 0⟩ : S39)] : List (S39))).bind fun y254 => (if 0 ≤ (l0.length : Int) then (if (l0.length : Int) ≤ (y254.length : Int) then ((some (y254.take ((l0.length : Int) : Int).toNat : List (S39))).bind fun y257 => ((window_Many.f k y257 a1 a2).bind fun bt261 => ((window_Richest.f k y257 a1 a2).bind fun bt265 => ((window_Holes.f k y257 a3 a4).bind fun bt269 => ((ferruleref9_Same.f k y257 l0).bind fun t273 => (if t273 = true then ((ferruleref13_Fits.f k l0).bind fun t274 => (if t274 = true then ((ferruleref9_Right.f 512 a3 a4).bind fun t275 => (ferrulelaw15_tells.j0 k l0 a1 a2 a3 a4 bt261.1 bt261.2 bt265.1 bt265.2.1 bt265.2.2.1 bt265.2.2.2 bt269.1 bt269.2 t274 (!t275))) else (ferrulelaw15_tells.j0 k l0 a1 a2 a3 a4 bt261.1 bt261.2 bt265.1 bt265.2.1 bt265.2.2.1 bt265.2.2.2 bt269.1 bt269.2 t274 true))) else (some false))))))) else (none)) else (none))) else (none))) else (none)) = some r := by first | (rw [hy248]; with_reducible exact H) | (have H2_ := (Option.bind_some _ _).symm.trans H; rw [hy248]; with_reducible exact H2_) | (have H2_ := (Option.bind_some _ _).symm.trans H; with_reducible exact H2_) | with_reducible exact H | (rw [hy248]; exact H) | exact H
  have Ny248 := Aside0.mk hy248
  clear hy248
  by_cases c6 : y248.length + l0.length < 5864062014805
  · rw [if_pos c6] at H
    have LMc6 := Aside0.mk c6
    clear c6
    obtain ⟨y251, hy251⟩ : ∃ y_ : List (S39), y_ = (y248 ++ l0) := ⟨_, rfl⟩
    replace H : (if y251.length < 5864062014805 then ((some (y251 ++ [(⟨9, 0, 0⟩ : S39)] : List (S39))).bind fun y254 => (if 0 ≤ (l0.length : Int) then (if (l0.length : Int) ≤ (y254.length : Int) then ((some (y254.take ((l0.length : Int) : Int).toNat : List (S39))).bind fun y257 => ((window_Many.f k y257 a1 a2).bind fun bt261 => ((window_Richest.f k y257 a1 a2).bind fun bt265 => ((window_Holes.f k y257 a3 a4).bind fun bt269 => ((ferruleref9_Same.f k y257 l0).bind fun t273 => (if t273 = true then ((ferruleref13_Fits.f k l0).bind fun t274 => (if t274 = true then ((ferruleref9_Right.f 512 a3 a4).bind fun t275 => (ferrulelaw15_tells.j0 k l0 a1 a2 a3 a4 bt261.1 bt261.2 bt265.1 bt265.2.1 bt265.2.2.1 bt265.2.2.2 bt269.1 bt269.2 t274 (!t275))) else (ferrulelaw15_tells.j0 k l0 a1 a2 a3 a4 bt261.1 bt261.2 bt265.1 bt265.2.1 bt265.2.2.1 bt265.2.2.2 bt269.1 bt269.2 t274 true))) else (some false))))))) else (none)) else (none))) else (none)) = some r := by first | (rw [hy251]; with_reducible exact H) | (have H2_ := (Option.bind_some _ _).symm.trans H; rw [hy251]; with_reducible exact H2_) | (have H2_ := (Option.bind_some _ _).symm.trans H; with_reducible exact H2_) | with_reducible exact H | (rw [hy251]; exact H) | exact H
    have Ny251 := Aside0.mk hy251
    clear hy251
    by_cases c7 : y251.length < 5864062014805
    · rw [if_pos c7] at H
      have LMc7 := Aside0.mk c7
      clear c7
      obtain ⟨y254, hy254⟩ : ∃ y_ : List (S39), y_ = (y251 ++ [(⟨9, 0, 0⟩ : S39)]) := ⟨_, rfl⟩
      replace H : (if 0 ≤ (l0.length : Int) then (if (l0.length : Int) ≤ (y254.length : Int) then ((some (y254.take ((l0.length : Int) : Int).toNat : List (S39))).bind fun y257 => ((window_Many.f k y257 a1 a2).bind fun bt261 => ((window_Richest.f k y257 a1 a2).bind fun bt265 => ((window_Holes.f k y257 a3 a4).bind fun bt269 => ((ferruleref9_Same.f k y257 l0).bind fun t273 => (if t273 = true then ((ferruleref13_Fits.f k l0).bind fun t274 => (if t274 = true then ((ferruleref9_Right.f 512 a3 a4).bind fun t275 => (ferrulelaw15_tells.j0 k l0 a1 a2 a3 a4 bt261.1 bt261.2 bt265.1 bt265.2.1 bt265.2.2.1 bt265.2.2.2 bt269.1 bt269.2 t274 (!t275))) else (ferrulelaw15_tells.j0 k l0 a1 a2 a3 a4 bt261.1 bt261.2 bt265.1 bt265.2.1 bt265.2.2.1 bt265.2.2.2 bt269.1 bt269.2 t274 true))) else (some false))))))) else (none)) else (none)) = some r := by first | (rw [hy254]; with_reducible exact H) | (have H2_ := (Option.bind_some _ _).symm.trans H; rw [hy254]; with_reducible exact H2_) | (have H2_ := (Option.bind_some _ _).symm.trans H; with_reducible exact H2_) | with_reducible exact H | (rw [hy254]; exact H) | exact H
      have Ny254 := Aside0.mk hy254
      clear hy254
      by_cases c8 : 0 ≤ (l0.length : Int)
      · rw [if_pos c8] at H
        have c8b0 := eq_true c8
        have c8b1 : decide (0 ≤ (l0.length : Int)) = true := decide_eq_true c8
        clear c8
        by_cases c9 : (l0.length : Int) ≤ (y254.length : Int)
        · rw [if_pos c9] at H
          have c9b0 := eq_true c9
          have c9b1 : decide ((l0.length : Int) ≤ (y254.length : Int)) = true := decide_eq_true c9
          clear c9
          obtain ⟨y257, hy257⟩ : ∃ y_ : List (S39), y_ = (y254.take ((l0.length : Int) : Int).toNat) := ⟨_, rfl⟩
          replace H : ((window_Many.f k y257 a1 a2).bind fun bt261 => ((window_Richest.f k y257 a1 a2).bind fun bt265 => ((window_Holes.f k y257 a3 a4).bind fun bt269 => ((ferruleref9_Same.f k y257 l0).bind fun t273 => (if t273 = true then ((ferruleref13_Fits.f k l0).bind fun t274 => (if t274 = true then ((ferruleref9_Right.f 512 a3 a4).bind fun t275 => (ferrulelaw15_tells.j0 k l0 a1 a2 a3 a4 bt261.1 bt261.2 bt265.1 bt265.2.1 bt265.2.2.1 bt265.2.2.2 bt269.1 bt269.2 t274 (!t275))) else (ferrulelaw15_tells.j0 k l0 a1 a2 a3 a4 bt261.1 bt261.2 bt265.1 bt265.2.1 bt265.2.2.1 bt265.2.2.2 bt269.1 bt269.2 t274 true))) else (some false)))))) = some r := by first | (rw [hy257]; with_reducible exact H) | (have H2_ := (Option.bind_some _ _).symm.trans H; rw [hy257]; with_reducible exact H2_) | (have H2_ := (Option.bind_some _ _).symm.trans H; with_reducible exact H2_) | with_reducible exact H | (rw [hy257]; exact H) | exact H
          have Ny257 := Aside0.mk hy257
          clear hy257
          replace H := Option.bind_eq_some_iff.mp H
          obtain ⟨⟨t261, t262⟩, A100, H⟩ := H
          replace H : ((window_Richest.f k y257 a1 a2).bind fun bt265 => ((window_Holes.f k y257 a3 a4).bind fun bt269 => ((ferruleref9_Same.f k y257 l0).bind fun t273 => (if t273 = true then ((ferruleref13_Fits.f k l0).bind fun t274 => (if t274 = true then ((ferruleref9_Right.f 512 a3 a4).bind fun t275 => (ferrulelaw15_tells.j0 k l0 a1 a2 a3 a4 t261 t262 bt265.1 bt265.2.1 bt265.2.2.1 bt265.2.2.2 bt269.1 bt269.2 t274 (!t275))) else (ferrulelaw15_tells.j0 k l0 a1 a2 a3 a4 t261 t262 bt265.1 bt265.2.1 bt265.2.2.1 bt265.2.2.2 bt269.1 bt269.2 t274 true))) else (some false))))) = some r := H
          have A10 := Aside0.mk A100
          clear A100
          replace H := Option.bind_eq_some_iff.mp H
          obtain ⟨⟨t265, t266, t267, t268⟩, A110, H⟩ := H
          replace H : ((window_Holes.f k y257 a3 a4).bind fun bt269 => ((ferruleref9_Same.f k y257 l0).bind fun t273 => (if t273 = true then ((ferruleref13_Fits.f k l0).bind fun t274 => (if t274 = true then ((ferruleref9_Right.f 512 a3 a4).bind fun t275 => (ferrulelaw15_tells.j0 k l0 a1 a2 a3 a4 t261 t262 t265 t266 t267 t268 bt269.1 bt269.2 t274 (!t275))) else (ferrulelaw15_tells.j0 k l0 a1 a2 a3 a4 t261 t262 t265 t266 t267 t268 bt269.1 bt269.2 t274 true))) else (some false)))) = some r := H
          have A11 := Aside0.mk A110
          clear A110
          replace H := Option.bind_eq_some_iff.mp H
          obtain ⟨⟨t269, t270⟩, A120, H⟩ := H
          replace H : ((ferruleref9_Same.f k y257 l0).bind fun t273 => (if t273 = true then ((ferruleref13_Fits.f k l0).bind fun t274 => (if t274 = true then ((ferruleref9_Right.f 512 a3 a4).bind fun t275 => (ferrulelaw15_tells.j0 k l0 a1 a2 a3 a4 t261 t262 t265 t266 t267 t268 t269 t270 t274 (!t275))) else (ferrulelaw15_tells.j0 k l0 a1 a2 a3 a4 t261 t262 t265 t266 t267 t268 t269 t270 t274 true))) else (some false))) = some r := H
          have A12 := Aside0.mk A120
          clear A120
          replace H := Option.bind_eq_some_iff.mp H
          obtain ⟨t273, A130, H⟩ := H
          replace H : (if t273 = true then ((ferruleref13_Fits.f k l0).bind fun t274 => (if t274 = true then ((ferruleref9_Right.f 512 a3 a4).bind fun t275 => (ferrulelaw15_tells.j0 k l0 a1 a2 a3 a4 t261 t262 t265 t266 t267 t268 t269 t270 t274 (!t275))) else (ferrulelaw15_tells.j0 k l0 a1 a2 a3 a4 t261 t262 t265 t266 t267 t268 t269 t270 t274 true))) else (some false)) = some r := H
          have A13 := Aside0.mk A130
          clear A130
          by_cases c14 : t273 = true
          · subst c14
            have H1 : ((ferruleref13_Fits.f k l0).bind fun t274 => (if t274 = true then ((ferruleref9_Right.f 512 a3 a4).bind fun t275 => (ferrulelaw15_tells.j0 k l0 a1 a2 a3 a4 t261 t262 t265 t266 t267 t268 t269 t270 t274 (!t275))) else (ferrulelaw15_tells.j0 k l0 a1 a2 a3 a4 t261 t262 t265 t266 t267 t268 t269 t270 t274 true))) = some r := by rw [if_pos rfl] at H; exact H
            clear H
            have H := H1
            clear H1
            replace H := Option.bind_eq_some_iff.mp H
            obtain ⟨t274, A150, H⟩ := H
            replace H : (if t274 = true then ((ferruleref9_Right.f 512 a3 a4).bind fun t275 => (ferrulelaw15_tells.j0 k l0 a1 a2 a3 a4 t261 t262 t265 t266 t267 t268 t269 t270 t274 (!t275))) else (ferrulelaw15_tells.j0 k l0 a1 a2 a3 a4 t261 t262 t265 t266 t267 t268 t269 t270 t274 true)) = some r := H
            have A15 := Aside0.mk A150
            clear A150
            have HC16 := Aside0.mk H
            clear H
            go_enter Try.func12, Try.ntmps12
            go_upto_region 8 with (first | ((with_reducible refine gate_dst (N := 25) rfl ?_); (try (refine gate_guard (by rfl) ?_; dsimp only)); refine Kd.R_lit k39 _ 39 ?hg (N := 25) ?hd (xs := ([] : List (S39))) (inner := []) (ok := fun _ => True) (okp := fun _ => True) ?hr ?hp (fun _ hk => hk) trivial (Below.refl _ _) (Nat.le_refl _) (by simp) ?_; (case hd => rfl); (case hg => rfl); (case hr => first | (go_simp; done) | (go_simp; rfl)); (case hp => exact (Reps.none _ _)); intro v249 w17 ho18 hb hg_ hnew_; clear hg_ hnew_; (first | rw [← Ny248.out] at ho18 | (simp only [Int.reduceToNat] at ho18; rw [← Ny248.out] at ho18)); have n0_ := Aside0.mk (Kd.R_lower ho18 (below_size (by repeat with_reducible first | exact HB.out | apply below_alloc | apply pw_below_drewN | apply below_drew1))); have n1_ := Aside0.mk (below_step (by repeat with_reducible first | exact HB.out | apply below_alloc | apply pw_below_drewN | apply below_drew1) hb); clear HB; have HO250 := n0_; have HB := n1_; clear n0_ n1_; clear hb ho18) | ((with_reducible refine gate_builtin (b := .append) (xs := #[.tmp 25, .tmp 26]) rfl ?_); (try (refine gate_guard (by rfl) ?_; dsimp only)); at_builtin; refine Kd.R_append_rows k39 (w0 := w) w.heap.size rfl (.tmp 25) (.tmp 26) 27 39 (.agg #[(.int .i64 0), (.int .i64 0), (.int .i64 0)]) 24 rfl Try.underlying27 info39 rfl (by decide) (by omega) v249 y248 l0 _ _ _ (fun _ => True) (fun _ => False) rfl rfl ?aO ?aR (fun _ _ h => h) (fun _ h => h.elim) ?aF ?aB ?aS ?aL ?_; (case aR => repeat (first | exact (Kd.C_below HR0.out HB.out) | (with_reducible refine Kd.C_alloc ?_ _) | (with_reducible refine Kd.C_drewN ?_ _) | (with_reducible refine Kd.C_drew ?_))); (case aB => exact (by repeat with_reducible first | exact HB.out | apply below_alloc | apply pw_below_drewN | apply below_drew1)); (case aF => exact (fun _ _ => trivial)); (case aO => exact (by (with_reducible repeat (first | apply Kd.R_alloc | apply Kd.R_drewN | apply Kd.R_drew)); exact HO250.out)); (case aS => exact (below_size (by repeat with_reducible first | exact HB.out | apply below_alloc | apply pw_below_drewN | apply below_drew1))); (case aL => have := LMc6.out; omega); intro v252 w19 ho hb hg hat; rw [← Ny251.out] at ho; have n0_ := Aside0.mk (hb); have n1_ := Aside0.mk (ho); clear HB; clear HO250; have HB := n0_; have HO253 := n1_; clear n0_ n1_; clear ho hb hg hat) | ((with_reducible refine gate_builtin (b := .append) (xs := #[.tmp 27, .tmp 29]) rfl ?_); (try (refine gate_guard (by rfl) ?_; dsimp only)); at_builtin; refine Kd.R_append k39 (w0 := w) w.heap.size rfl (.tmp 27) (.tmp 29) 27 39 (.agg #[(.int .i64 0), (.int .i64 0), (.int .i64 0)]) 24 rfl Try.underlying27 info39 rfl (by decide) (by omega) v252 y251 (⟨9, 0, 0⟩ : S39) [.int .i64 9, .int .i64 0, .int .i64 0] (fun _ => True) (fun _ => False) rfl rfl ?aP (fun _ hk => hk.elim) ?aF ?aO ?aB ?aS ?aL ?_; (case aP => exact k39_mkM _ _ _ (⟨9, 0, 0⟩ : S39)); (case aB => exact (by repeat with_reducible first | exact HB.out | apply below_alloc | apply pw_below_drewN | apply below_drew1)); (case aF => exact (fun _ _ => trivial)); (case aO => exact (by (with_reducible repeat (first | apply Kd.R_alloc | apply Kd.R_drewN | apply Kd.R_drew)); exact HO253.out)); (case aS => exact (below_size (by repeat with_reducible first | exact HB.out | apply below_alloc | apply pw_below_drewN | apply below_drew1))); (case aL => have := LMc7.out; omega); intro v255 w20 ho hb hg hat; rw [← Ny254.out] at ho; have n0_ := Aside0.mk (hb); have n1_ := Aside0.mk (ho); clear HB; clear HO253; have HB := n0_; have HO256 := n1_; clear n0_ n1_; clear ho hb hg hat; obtain ⟨Ao22, co22, eo22⟩ := Kd.R_slice HO256.out; subst eo22; have q21 : ((l0.length : Int) : Int) ≤ ((y254.length : Int) : Int) := of_decide_eq_true (by with_reducible assumption); obtain ⟨i021, hi021, _, hsz21, _⟩ := info_parts info39; have hroom21 : y254.length ≤ co22 := (Kd.R_reads' HO256.out).2.1; have hC21 : Kd.C k39 _ Ao22 y254.length y254 := (Kd.R_reads' HO256.out).2.2; have hcut21 := cut_to (P := Try.prog) 27 39 .i64 Try.underlying27 hi021 Ao22 y254.length co22 (l0.length : Int) (of_decide_eq_true (by with_reducible assumption)) q21 hroom21; have hr21 := Kd.C_take (m := ((l0.length : Int) : Int).toNat) hC21 (by omega); have hy21 : y257.length = ((l0.length : Int) : Int).toNat := (by rw [Ny257.out, List.length_take]; omega); rw [← Ny257.out] at hr21; rw [← hy21] at hcut21; have HR260 := Aside0.mk hr21; have HC260 := Aside0.mk (show y257.length ≤ co22 from by omega); clear hr21 hC21 hroom21 hi021 hsz21; have KY21 := Aside0.mk hy21; clear hy21; have KL21 := Aside0.mk (show ((l0.length : Int) : Int).toNat ≤ y254.length from by omega); replace q21 := eq_true q21) | (go_at_call 10; (with_reducible refine (window_Many.calls k _ _ y257 a1 a2 t261 t262 _ ?side1 ?side2 A10.out).mono ?_); (case side1 => repeat (first | exact (by repeat (first | (with_reducible exact HR260.out) | (with_reducible refine Kd.C_alloc ?_ _) | (with_reducible refine Kd.C_drewN ?_ _) | (with_reducible refine Kd.C_drew ?_) | exact HR260.out)) | (with_reducible refine Kd.C_alloc ?_ _) | (with_reducible refine Kd.C_drewN ?_ _) | (with_reducible refine Kd.C_drew ?_))); (case side2 => exact HC260.out); rintro e w23 ⟨v263, rfl, ho0, hb⟩; have n0_ := Aside0.mk (Kd.R_below (by (with_reducible repeat (first | apply Kd.R_alloc | apply Kd.R_drewN | apply Kd.R_drew)); exact HO256.out) hb); have n1_ := Aside0.mk (Kd.R_lower ho0 (below_size (by repeat with_reducible first | exact HB.out | apply below_alloc | apply pw_below_drewN | apply below_drew1))); have n2_ := Aside0.mk (Kd.C_below (by repeat (first | (with_reducible exact HR260.out) | (with_reducible refine Kd.C_alloc ?_ _) | (with_reducible refine Kd.C_drewN ?_ _) | (with_reducible refine Kd.C_drew ?_) | exact HR260.out)) hb); have n3_ := Aside0.mk (below_step (by repeat with_reducible first | exact HB.out | apply below_alloc | apply pw_below_drewN | apply below_drew1) hb); clear HO256; clear HR260; clear HB; have HO256 := n0_; have HO264 := n1_; have HR260 := n2_; have HB := n3_; clear n0_ n1_ n2_ n3_; (try clear hb); (try clear hb2); (try clear hk); (try clear hi); (try clear ho0)) | (go_at_call 11; (with_reducible refine (window_Richest.calls k _ _ y257 a1 a2 t265 t266 t267 t268 _ ?side1 ?side2 A11.out).mono ?_); (case side1 => repeat (first | exact (by repeat (first | (with_reducible exact HR260.out) | (with_reducible refine Kd.C_alloc ?_ _) | (with_reducible refine Kd.C_drewN ?_ _) | (with_reducible refine Kd.C_drew ?_) | exact HR260.out)) | (with_reducible refine Kd.C_alloc ?_ _) | (with_reducible refine Kd.C_drewN ?_ _) | (with_reducible refine Kd.C_drew ?_))); (case side2 => exact HC260.out); rintro e w24 ⟨rfl, hb⟩; have n0_ := Aside0.mk (Kd.R_below (by (with_reducible repeat (first | apply Kd.R_alloc | apply Kd.R_drewN | apply Kd.R_drew)); exact HO256.out) hb); have n1_ := Aside0.mk (Kd.R_below (by (with_reducible repeat (first | apply Kd.R_alloc | apply Kd.R_drewN | apply Kd.R_drew)); exact HO264.out) hb); have n2_ := Aside0.mk (Kd.C_below (by repeat (first | (with_reducible exact HR260.out) | (with_reducible refine Kd.C_alloc ?_ _) | (with_reducible refine Kd.C_drewN ?_ _) | (with_reducible refine Kd.C_drew ?_) | exact HR260.out)) hb); have n3_ := Aside0.mk (below_step (by repeat with_reducible first | exact HB.out | apply below_alloc | apply pw_below_drewN | apply below_drew1) hb); clear HO256; clear HO264; clear HR260; clear HB; have HO256 := n0_; have HO264 := n1_; have HR260 := n2_; have HB := n3_; clear n0_ n1_ n2_ n3_; (try clear hb); (try clear hb2); (try clear hk); (try clear hi)) | (go_at_call 8; (with_reducible refine (window_Holes.calls k _ _ y257 a3 a4 t269 t270 _ ?side1 ?side2 A12.out).mono ?_); (case side1 => repeat (first | exact (by repeat (first | (with_reducible exact HR260.out) | (with_reducible refine Kd.C_alloc ?_ _) | (with_reducible refine Kd.C_drewN ?_ _) | (with_reducible refine Kd.C_drew ?_) | exact HR260.out)) | (with_reducible refine Kd.C_alloc ?_ _) | (with_reducible refine Kd.C_drewN ?_ _) | (with_reducible refine Kd.C_drew ?_))); (case side2 => exact HC260.out); rintro e w25 ⟨v271, rfl, ho0, hb⟩; have n0_ := Aside0.mk (Kd.R_below (by (with_reducible repeat (first | apply Kd.R_alloc | apply Kd.R_drewN | apply Kd.R_drew)); exact HO256.out) hb); have n1_ := Aside0.mk (Kd.R_below (by (with_reducible repeat (first | apply Kd.R_alloc | apply Kd.R_drewN | apply Kd.R_drew)); exact HO264.out) hb); have n2_ := Aside0.mk (Kd.R_lower ho0 (below_size (by repeat with_reducible first | exact HB.out | apply below_alloc | apply pw_below_drewN | apply below_drew1))); have n3_ := Aside0.mk (Kd.C_below (by repeat (first | (with_reducible exact HR260.out) | (with_reducible refine Kd.C_alloc ?_ _) | (with_reducible refine Kd.C_drewN ?_ _) | (with_reducible refine Kd.C_drew ?_) | exact HR260.out)) hb); have n4_ := Aside0.mk (below_step (by repeat with_reducible first | exact HB.out | apply below_alloc | apply pw_below_drewN | apply below_drew1) hb); clear HO256; clear HO264; clear HR260; clear HB; have HO256 := n0_; have HO264 := n1_; have HO272 := n2_; have HR260 := n3_; have HB := n4_; clear n0_ n1_ n2_ n3_ n4_; (try clear hb); (try clear hb2); (try clear hk); (try clear hi); (try clear ho0)) | (go_at_call 19; (with_reducible refine (ferruleref9_Same.calls k _ _ y257 _ _ l0 true _ ?side1 ?side2 ?side3 ?side4 A13.out).mono ?_); (case side1 => repeat (first | exact (by repeat (first | (with_reducible exact HR260.out) | (with_reducible refine Kd.C_alloc ?_ _) | (with_reducible refine Kd.C_drewN ?_ _) | (with_reducible refine Kd.C_drew ?_) | exact HR260.out)) | (with_reducible refine Kd.C_alloc ?_ _) | (with_reducible refine Kd.C_drewN ?_ _) | (with_reducible refine Kd.C_drew ?_))); (case side2 => exact HC260.out); (case side3 => repeat (first | exact (Kd.C_below HR0.out HB.out) | (with_reducible refine Kd.C_alloc ?_ _) | (with_reducible refine Kd.C_drewN ?_ _) | (with_reducible refine Kd.C_drew ?_))); (case side4 => exact HC0.out); rintro e w' ⟨rfl, ⟨nd, rfl⟩⟩; (try first | exact ⟨rfl, _, World.drewN_drewN _ _ _⟩ | exact ⟨rfl, _, Eq.trans (World.drewN_drewN _ _ _) (congrArg (World.drewN _) (Nat.add_assoc _ _ _))⟩)) | (go_at_call 20; (with_reducible refine (ferruleref13_Fits.calls k _ _ l0 t274 _ ?side1 ?side2 A15.out).mono ?_); (case side1 => repeat (first | exact (Kd.C_below HR0.out (by repeat with_reducible first | exact HB.out | apply below_alloc | apply pw_below_drewN | apply below_drew1)) | (with_reducible refine Kd.C_alloc ?_ _) | (with_reducible refine Kd.C_drewN ?_ _) | (with_reducible refine Kd.C_drew ?_))); (case side2 => exact HC0.out); rintro e w26 ⟨rfl, hb⟩; have n0_ := Aside0.mk (Kd.R_below (by (with_reducible repeat (first | apply Kd.R_alloc | apply Kd.R_drewN | apply Kd.R_drew)); exact HO256.out) hb); have n1_ := Aside0.mk (Kd.R_below (by (with_reducible repeat (first | apply Kd.R_alloc | apply Kd.R_drewN | apply Kd.R_drew)); exact HO264.out) hb); have n2_ := Aside0.mk (Kd.R_below (by (with_reducible repeat (first | apply Kd.R_alloc | apply Kd.R_drewN | apply Kd.R_drew)); exact HO272.out) hb); have n3_ := Aside0.mk (Kd.C_below (by repeat (first | (with_reducible exact HR260.out) | (with_reducible refine Kd.C_alloc ?_ _) | (with_reducible refine Kd.C_drewN ?_ _) | (with_reducible refine Kd.C_drew ?_) | exact HR260.out)) hb); have n4_ := Aside0.mk (below_step (by repeat with_reducible first | exact HB.out | apply below_alloc | apply pw_below_drewN | apply below_drew1) hb); clear HO256; clear HO264; clear HO272; clear HR260; clear HB; have HO256 := n0_; have HO264 := n1_; have HO272 := n2_; have HR260 := n3_; have HB := n4_; clear n0_ n1_ n2_ n3_ n4_; (try clear hb); (try clear hb2); (try clear hk); (try clear hi)))
            repeat (go_quiet (fail); go_upto_region 8 with (first | ((with_reducible refine gate_dst (N := 25) rfl ?_); (try (refine gate_guard (by rfl) ?_; dsimp only)); refine Kd.R_lit k39 _ 39 ?hg (N := 25) ?hd (xs := ([] : List (S39))) (inner := []) (ok := fun _ => True) (okp := fun _ => True) ?hr ?hp (fun _ hk => hk) trivial (Below.refl _ _) (Nat.le_refl _) (by simp) ?_; (case hd => rfl); (case hg => rfl); (case hr => first | (go_simp; done) | (go_simp; rfl)); (case hp => exact (Reps.none _ _)); intro v249 w17 ho18 hb hg_ hnew_; clear hg_ hnew_; (first | rw [← Ny248.out] at ho18 | (simp only [Int.reduceToNat] at ho18; rw [← Ny248.out] at ho18)); have n0_ := Aside0.mk (Kd.R_lower ho18 (below_size (by repeat with_reducible first | exact HB.out | apply below_alloc | apply pw_below_drewN | apply below_drew1))); have n1_ := Aside0.mk (below_step (by repeat with_reducible first | exact HB.out | apply below_alloc | apply pw_below_drewN | apply below_drew1) hb); clear HB; have HO250 := n0_; have HB := n1_; clear n0_ n1_; clear hb ho18) | ((with_reducible refine gate_builtin (b := .append) (xs := #[.tmp 25, .tmp 26]) rfl ?_); (try (refine gate_guard (by rfl) ?_; dsimp only)); at_builtin; refine Kd.R_append_rows k39 (w0 := w) w.heap.size rfl (.tmp 25) (.tmp 26) 27 39 (.agg #[(.int .i64 0), (.int .i64 0), (.int .i64 0)]) 24 rfl Try.underlying27 info39 rfl (by decide) (by omega) v249 y248 l0 _ _ _ (fun _ => True) (fun _ => False) rfl rfl ?aO ?aR (fun _ _ h => h) (fun _ h => h.elim) ?aF ?aB ?aS ?aL ?_; (case aR => repeat (first | exact (Kd.C_below HR0.out HB.out) | (with_reducible refine Kd.C_alloc ?_ _) | (with_reducible refine Kd.C_drewN ?_ _) | (with_reducible refine Kd.C_drew ?_))); (case aB => exact (by repeat with_reducible first | exact HB.out | apply below_alloc | apply pw_below_drewN | apply below_drew1)); (case aF => exact (fun _ _ => trivial)); (case aO => exact (by (with_reducible repeat (first | apply Kd.R_alloc | apply Kd.R_drewN | apply Kd.R_drew)); exact HO250.out)); (case aS => exact (below_size (by repeat with_reducible first | exact HB.out | apply below_alloc | apply pw_below_drewN | apply below_drew1))); (case aL => have := LMc6.out; omega); intro v252 w19 ho hb hg hat; rw [← Ny251.out] at ho; have n0_ := Aside0.mk (hb); have n1_ := Aside0.mk (ho); clear HB; clear HO250; have HB := n0_; have HO253 := n1_; clear n0_ n1_; clear ho hb hg hat) | ((with_reducible refine gate_builtin (b := .append) (xs := #[.tmp 27, .tmp 29]) rfl ?_); (try (refine gate_guard (by rfl) ?_; dsimp only)); at_builtin; refine Kd.R_append k39 (w0 := w) w.heap.size rfl (.tmp 27) (.tmp 29) 27 39 (.agg #[(.int .i64 0), (.int .i64 0), (.int .i64 0)]) 24 rfl Try.underlying27 info39 rfl (by decide) (by omega) v252 y251 (⟨9, 0, 0⟩ : S39) [.int .i64 9, .int .i64 0, .int .i64 0] (fun _ => True) (fun _ => False) rfl rfl ?aP (fun _ hk => hk.elim) ?aF ?aO ?aB ?aS ?aL ?_; (case aP => exact k39_mkM _ _ _ (⟨9, 0, 0⟩ : S39)); (case aB => exact (by repeat with_reducible first | exact HB.out | apply below_alloc | apply pw_below_drewN | apply below_drew1)); (case aF => exact (fun _ _ => trivial)); (case aO => exact (by (with_reducible repeat (first | apply Kd.R_alloc | apply Kd.R_drewN | apply Kd.R_drew)); exact HO253.out)); (case aS => exact (below_size (by repeat with_reducible first | exact HB.out | apply below_alloc | apply pw_below_drewN | apply below_drew1))); (case aL => have := LMc7.out; omega); intro v255 w20 ho hb hg hat; rw [← Ny254.out] at ho; have n0_ := Aside0.mk (hb); have n1_ := Aside0.mk (ho); clear HB; clear HO253; have HB := n0_; have HO256 := n1_; clear n0_ n1_; clear ho hb hg hat; obtain ⟨Ao22, co22, eo22⟩ := Kd.R_slice HO256.out; subst eo22; have q21 : ((l0.length : Int) : Int) ≤ ((y254.length : Int) : Int) := of_decide_eq_true (by with_reducible assumption); obtain ⟨i021, hi021, _, hsz21, _⟩ := info_parts info39; have hroom21 : y254.length ≤ co22 := (Kd.R_reads' HO256.out).2.1; have hC21 : Kd.C k39 _ Ao22 y254.length y254 := (Kd.R_reads' HO256.out).2.2; have hcut21 := cut_to (P := Try.prog) 27 39 .i64 Try.underlying27 hi021 Ao22 y254.length co22 (l0.length : Int) (of_decide_eq_true (by with_reducible assumption)) q21 hroom21; have hr21 := Kd.C_take (m := ((l0.length : Int) : Int).toNat) hC21 (by omega); have hy21 : y257.length = ((l0.length : Int) : Int).toNat := (by rw [Ny257.out, List.length_take]; omega); rw [← Ny257.out] at hr21; rw [← hy21] at hcut21; have HR260 := Aside0.mk hr21; have HC260 := Aside0.mk (show y257.length ≤ co22 from by omega); clear hr21 hC21 hroom21 hi021 hsz21; have KY21 := Aside0.mk hy21; clear hy21; have KL21 := Aside0.mk (show ((l0.length : Int) : Int).toNat ≤ y254.length from by omega); replace q21 := eq_true q21) | (go_at_call 10; (with_reducible refine (window_Many.calls k _ _ y257 a1 a2 t261 t262 _ ?side1 ?side2 A10.out).mono ?_); (case side1 => repeat (first | exact (by repeat (first | (with_reducible exact HR260.out) | (with_reducible refine Kd.C_alloc ?_ _) | (with_reducible refine Kd.C_drewN ?_ _) | (with_reducible refine Kd.C_drew ?_) | exact HR260.out)) | (with_reducible refine Kd.C_alloc ?_ _) | (with_reducible refine Kd.C_drewN ?_ _) | (with_reducible refine Kd.C_drew ?_))); (case side2 => exact HC260.out); rintro e w23 ⟨v263, rfl, ho0, hb⟩; have n0_ := Aside0.mk (Kd.R_below (by (with_reducible repeat (first | apply Kd.R_alloc | apply Kd.R_drewN | apply Kd.R_drew)); exact HO256.out) hb); have n1_ := Aside0.mk (Kd.R_lower ho0 (below_size (by repeat with_reducible first | exact HB.out | apply below_alloc | apply pw_below_drewN | apply below_drew1))); have n2_ := Aside0.mk (Kd.C_below (by repeat (first | (with_reducible exact HR260.out) | (with_reducible refine Kd.C_alloc ?_ _) | (with_reducible refine Kd.C_drewN ?_ _) | (with_reducible refine Kd.C_drew ?_) | exact HR260.out)) hb); have n3_ := Aside0.mk (below_step (by repeat with_reducible first | exact HB.out | apply below_alloc | apply pw_below_drewN | apply below_drew1) hb); clear HO256; clear HR260; clear HB; have HO256 := n0_; have HO264 := n1_; have HR260 := n2_; have HB := n3_; clear n0_ n1_ n2_ n3_; (try clear hb); (try clear hb2); (try clear hk); (try clear hi); (try clear ho0)) | (go_at_call 11; (with_reducible refine (window_Richest.calls k _ _ y257 a1 a2 t265 t266 t267 t268 _ ?side1 ?side2 A11.out).mono ?_); (case side1 => repeat (first | exact (by repeat (first | (with_reducible exact HR260.out) | (with_reducible refine Kd.C_alloc ?_ _) | (with_reducible refine Kd.C_drewN ?_ _) | (with_reducible refine Kd.C_drew ?_) | exact HR260.out)) | (with_reducible refine Kd.C_alloc ?_ _) | (with_reducible refine Kd.C_drewN ?_ _) | (with_reducible refine Kd.C_drew ?_))); (case side2 => exact HC260.out); rintro e w24 ⟨rfl, hb⟩; have n0_ := Aside0.mk (Kd.R_below (by (with_reducible repeat (first | apply Kd.R_alloc | apply Kd.R_drewN | apply Kd.R_drew)); exact HO256.out) hb); have n1_ := Aside0.mk (Kd.R_below (by (with_reducible repeat (first | apply Kd.R_alloc | apply Kd.R_drewN | apply Kd.R_drew)); exact HO264.out) hb); have n2_ := Aside0.mk (Kd.C_below (by repeat (first | (with_reducible exact HR260.out) | (with_reducible refine Kd.C_alloc ?_ _) | (with_reducible refine Kd.C_drewN ?_ _) | (with_reducible refine Kd.C_drew ?_) | exact HR260.out)) hb); have n3_ := Aside0.mk (below_step (by repeat with_reducible first | exact HB.out | apply below_alloc | apply pw_below_drewN | apply below_drew1) hb); clear HO256; clear HO264; clear HR260; clear HB; have HO256 := n0_; have HO264 := n1_; have HR260 := n2_; have HB := n3_; clear n0_ n1_ n2_ n3_; (try clear hb); (try clear hb2); (try clear hk); (try clear hi)) | (go_at_call 8; (with_reducible refine (window_Holes.calls k _ _ y257 a3 a4 t269 t270 _ ?side1 ?side2 A12.out).mono ?_); (case side1 => repeat (first | exact (by repeat (first | (with_reducible exact HR260.out) | (with_reducible refine Kd.C_alloc ?_ _) | (with_reducible refine Kd.C_drewN ?_ _) | (with_reducible refine Kd.C_drew ?_) | exact HR260.out)) | (with_reducible refine Kd.C_alloc ?_ _) | (with_reducible refine Kd.C_drewN ?_ _) | (with_reducible refine Kd.C_drew ?_))); (case side2 => exact HC260.out); rintro e w25 ⟨v271, rfl, ho0, hb⟩; have n0_ := Aside0.mk (Kd.R_below (by (with_reducible repeat (first | apply Kd.R_alloc | apply Kd.R_drewN | apply Kd.R_drew)); exact HO256.out) hb); have n1_ := Aside0.mk (Kd.R_below (by (with_reducible repeat (first | apply Kd.R_alloc | apply Kd.R_drewN | apply Kd.R_drew)); exact HO264.out) hb); have n2_ := Aside0.mk (Kd.R_lower ho0 (below_size (by repeat with_reducible first | exact HB.out | apply below_alloc | apply pw_below_drewN | apply below_drew1))); have n3_ := Aside0.mk (Kd.C_below (by repeat (first | (with_reducible exact HR260.out) | (with_reducible refine Kd.C_alloc ?_ _) | (with_reducible refine Kd.C_drewN ?_ _) | (with_reducible refine Kd.C_drew ?_) | exact HR260.out)) hb); have n4_ := Aside0.mk (below_step (by repeat with_reducible first | exact HB.out | apply below_alloc | apply pw_below_drewN | apply below_drew1) hb); clear HO256; clear HO264; clear HR260; clear HB; have HO256 := n0_; have HO264 := n1_; have HO272 := n2_; have HR260 := n3_; have HB := n4_; clear n0_ n1_ n2_ n3_ n4_; (try clear hb); (try clear hb2); (try clear hk); (try clear hi); (try clear ho0)) | (go_at_call 19; (with_reducible refine (ferruleref9_Same.calls k _ _ y257 _ _ l0 true _ ?side1 ?side2 ?side3 ?side4 A13.out).mono ?_); (case side1 => repeat (first | exact (by repeat (first | (with_reducible exact HR260.out) | (with_reducible refine Kd.C_alloc ?_ _) | (with_reducible refine Kd.C_drewN ?_ _) | (with_reducible refine Kd.C_drew ?_) | exact HR260.out)) | (with_reducible refine Kd.C_alloc ?_ _) | (with_reducible refine Kd.C_drewN ?_ _) | (with_reducible refine Kd.C_drew ?_))); (case side2 => exact HC260.out); (case side3 => repeat (first | exact (Kd.C_below HR0.out HB.out) | (with_reducible refine Kd.C_alloc ?_ _) | (with_reducible refine Kd.C_drewN ?_ _) | (with_reducible refine Kd.C_drew ?_))); (case side4 => exact HC0.out); rintro e w' ⟨rfl, ⟨nd, rfl⟩⟩; (try first | exact ⟨rfl, _, World.drewN_drewN _ _ _⟩ | exact ⟨rfl, _, Eq.trans (World.drewN_drewN _ _ _) (congrArg (World.drewN _) (Nat.add_assoc _ _ _))⟩)) | (go_at_call 20; (with_reducible refine (ferruleref13_Fits.calls k _ _ l0 t274 _ ?side1 ?side2 A15.out).mono ?_); (case side1 => repeat (first | exact (Kd.C_below HR0.out (by repeat with_reducible first | exact HB.out | apply below_alloc | apply pw_below_drewN | apply below_drew1)) | (with_reducible refine Kd.C_alloc ?_ _) | (with_reducible refine Kd.C_drewN ?_ _) | (with_reducible refine Kd.C_drew ?_))); (case side2 => exact HC0.out); rintro e w26 ⟨rfl, hb⟩; have n0_ := Aside0.mk (Kd.R_below (by (with_reducible repeat (first | apply Kd.R_alloc | apply Kd.R_drewN | apply Kd.R_drew)); exact HO256.out) hb); have n1_ := Aside0.mk (Kd.R_below (by (with_reducible repeat (first | apply Kd.R_alloc | apply Kd.R_drewN | apply Kd.R_drew)); exact HO264.out) hb); have n2_ := Aside0.mk (Kd.R_below (by (with_reducible repeat (first | apply Kd.R_alloc | apply Kd.R_drewN | apply Kd.R_drew)); exact HO272.out) hb); have n3_ := Aside0.mk (Kd.C_below (by repeat (first | (with_reducible exact HR260.out) | (with_reducible refine Kd.C_alloc ?_ _) | (with_reducible refine Kd.C_drewN ?_ _) | (with_reducible refine Kd.C_drew ?_) | exact HR260.out)) hb); have n4_ := Aside0.mk (below_step (by repeat with_reducible first | exact HB.out | apply below_alloc | apply pw_below_drewN | apply below_drew1) hb); clear HO256; clear HO264; clear HO272; clear HR260; clear HB; have HO256 := n0_; have HO264 := n1_; have HO272 := n2_; have HR260 := n3_; have HB := n4_; clear n0_ n1_ n2_ n3_ n4_; (try clear hb); (try clear hb2); (try clear hk); (try clear hi))))
            (try simp only [Act.put, List.setIfInBounds_toArray, List.set_cons_zero, List.set_cons_succ])
            go_cut [70] (fun v70 wc => ∃ (kq : Nat) (x70_15 : Bool), v70 = .bool x70_15 ∧ Aside0 (ferrulelaw15_tells.j0 kq l0 a1 a2 a3 a4 t261 t262 t265 t266 t267 t268 t269 t270 t274 x70_15 = some r) ∧ Aside0 (kq ≤ k) ∧ Aside0 (Kd.R (Kd.int .i64) 3 wc w.heap.size (fun _ => True) v263 t261) ∧ Aside0 (Kd.R k38 38 wc w.heap.size (fun _ => True) v271 t269) ∧ Aside0 (Kd.C k39 wc Ao22 y257.length y257) ∧ Aside0 (Below w.heap.size w wc))
            case first =>
              as_aux_lemma =>
                have H := HC16.out
                clear HC16
                by_cases c27 : t274 = true
                · subst c27
                  have H1 : ((ferruleref9_Right.f 512 a3 a4).bind fun t275 => (ferrulelaw15_tells.j0 k l0 a1 a2 a3 a4 t261 t262 t265 t266 t267 t268 t269 t270 true (!t275))) = some r := by rw [if_pos rfl] at H; exact H
                  clear H
                  have H := H1
                  clear H1
                  replace H := Option.bind_eq_some_iff.mp H
                  obtain ⟨t275, A280, H⟩ := H
                  replace H : (ferrulelaw15_tells.j0 k l0 a1 a2 a3 a4 t261 t262 t265 t266 t267 t268 t269 t270 true (!t275)) = some r := H
                  have A28 := Aside0.mk A280
                  clear A280
                  have H' := Aside0.mk H
                  clear H
                  go_wp2_with (first | (go_at_call 21; (with_reducible refine (ferruleref9_Right.calls 512 a3 a4 t275 _ A28.out).mono ?_); rintro e w' ⟨rfl, ⟨nd, rfl⟩⟩; (try first | exact ⟨rfl, _, World.drewN_drewN _ _ _⟩ | exact ⟨rfl, _, Eq.trans (World.drewN_drewN _ _ _) (congrArg (World.drewN _) (Nat.add_assoc _ _ _))⟩)))
                  repeat (go_quiet (first | (go_at_call 21; (with_reducible refine (ferruleref9_Right.calls 512 a3 a4 t275 _ A28.out).mono ?_); rintro e w' ⟨rfl, ⟨nd, rfl⟩⟩; (try first | exact ⟨rfl, _, World.drewN_drewN _ _ _⟩ | exact ⟨rfl, _, Eq.trans (World.drewN_drewN _ _ _) (congrArg (World.drewN _) (Nat.add_assoc _ _ _))⟩))); try go_wp2_with (first | (go_at_call 21; (with_reducible refine (ferruleref9_Right.calls 512 a3 a4 t275 _ A28.out).mono ?_); rintro e w' ⟨rfl, ⟨nd, rfl⟩⟩; (try first | exact ⟨rfl, _, World.drewN_drewN _ _ _⟩ | exact ⟨rfl, _, Eq.trans (World.drewN_drewN _ _ _) (congrArg (World.drewN _) (Nat.add_assoc _ _ _))⟩))))
                  go_meet
                  case rel => exact ⟨_, (!t275), (by first | rfl | (simp; done) | (simp [*]; done)), H', ⟨by first | omega | exact Nat.le_refl _⟩, ⟨by (with_reducible repeat (first | apply Kd.R_alloc | apply Kd.R_drewN | apply Kd.R_drew)); exact HO264.out⟩, ⟨by (with_reducible repeat (first | apply Kd.R_alloc | apply Kd.R_drewN | apply Kd.R_drew)); exact HO272.out⟩, ⟨by repeat (first | (with_reducible exact HR260.out) | (with_reducible refine Kd.C_alloc ?_ _) | (with_reducible refine Kd.C_drewN ?_ _) | (with_reducible refine Kd.C_drew ?_) | exact HR260.out)⟩, ⟨by repeat with_reducible first | exact HB.out | apply below_alloc | apply pw_below_drewN | apply below_drew1⟩⟩
                · replace c27 := Bool.eq_false_iff.mpr c27
                  subst c27
                  have H1 : (ferrulelaw15_tells.j0 k l0 a1 a2 a3 a4 t261 t262 t265 t266 t267 t268 t269 t270 false true) = some r := by rw [if_neg (show ¬ (false = true) by decide)] at H; exact H
                  clear H
                  have H := H1
                  clear H1
                  have H' := Aside0.mk H
                  clear H
                  go_wp2
                  repeat (go_quiet (fail); try go_wp2)
                  go_meet
                  case rel => exact ⟨_, (true), (by first | rfl | (simp; done) | (simp [*]; done)), H', ⟨by first | omega | exact Nat.le_refl _⟩, ⟨by (with_reducible repeat (first | apply Kd.R_alloc | apply Kd.R_drewN | apply Kd.R_drew)); exact HO264.out⟩, ⟨by (with_reducible repeat (first | apply Kd.R_alloc | apply Kd.R_drewN | apply Kd.R_drew)); exact HO272.out⟩, ⟨by repeat (first | (with_reducible exact HR260.out) | (with_reducible refine Kd.C_alloc ?_ _) | (with_reducible refine Kd.C_drewN ?_ _) | (with_reducible refine Kd.C_drew ?_) | exact HR260.out)⟩, ⟨by repeat with_reducible first | exact HB.out | apply below_alloc | apply pw_below_drewN | apply below_drew1⟩⟩
            case rest =>
              clear HC16
              try clear c1
              try clear c2
              try clear p2
              try clear q2
              try clear c6
              try clear c7
              try clear c8
              try clear c8b0
              try clear c8b1
              try clear c9
              try clear c9b0
              try clear c9b1
              try clear c12
              try clear c14
              try clear q21
              try clear c27
              try clear q21
              obtain ⟨kq, x70_15, rfl, HA, HJ15, HO_12, HO_18, HR260, HB⟩ := hcut
              cases kq with
              | zero => exact absurd HA.out (by simp [ferrulelaw15_tells.j0])
              | succ kj15 =>
                have H := HA.out
                clear HA
                simp only [ferrulelaw15_tells.j0] at H
                have HC29 := Aside0.mk H
                clear H
                go_upto_if 70 with (fail)
                repeat (go_quiet (fail); go_upto_if 70 with (fail))
                go_cut [] (fun wc => ∃ (kq : Nat), Aside0 (ferrulelaw15_tells.j1 kq l0 a1 a2 t261 t262 t265 t266 t267 t268 t274 = some r) ∧ Aside0 (kq ≤ kj15) ∧ Aside0 (Kd.R (Kd.int .i64) 3 wc w.heap.size (fun _ => True) v263 t261) ∧ Aside0 (Kd.C k39 wc Ao22 y257.length y257) ∧ Aside0 (Below w.heap.size w wc))
                case first =>
                  as_aux_lemma =>
                    have H := HC29.out
                    clear HC29
                    by_cases c30 : x70_15 = true
                    · subst c30
                      have H1 : (if t270 = 1 then (if (t269.length : Int) = 0 then (ferrulelaw15_tells.j1 kj15 l0 a1 a2 t261 t262 t265 t266 t267 t268 t274) else (some false)) else (some false)) = some r := by rw [if_pos rfl] at H; exact H
                      clear H
                      have H := H1
                      clear H1
                      by_cases c31 : t270 = 1
                      · rw [if_pos c31] at H
                        have c31b0 : (t270 == 1) = true := beq_iff_eq.mpr c31
                        have c31b1 : (t270 != 1) = false := bne_eq_false_iff_eq.mpr c31
                        clear c31
                        (first | rw [c31b0] | (simp only [i64_w, i32_w]; rw [c31b0]) | skip)
                        by_cases c32 : (t269.length : Int) = 0
                        · rw [if_pos c32] at H
                          have c32b0 : ((t269.length : Int) == 0) = true := beq_iff_eq.mpr c32
                          have c32b1 : ((t269.length : Int) != 0) = false := bne_eq_false_iff_eq.mpr c32
                          clear c32
                          have H' := Aside0.mk H
                          clear H
                          obtain ⟨Ao33, co33, eo33⟩ := Kd.R_slice HO_18.out
                          subst eo33
                          go_wp2
                          repeat (go_quiet (fail); try go_wp2)
                          go_meet
                          case rel => exact ⟨_, H', ⟨by have := HJ15.out; first | omega | exact Nat.le_refl _⟩, ⟨by (with_reducible repeat (first | apply Kd.R_alloc | apply Kd.R_drewN | apply Kd.R_drew)); exact HO_12.out⟩, ⟨by repeat (first | (with_reducible exact HR260.out) | (with_reducible refine Kd.C_alloc ?_ _) | (with_reducible refine Kd.C_drewN ?_ _) | (with_reducible refine Kd.C_drew ?_) | exact HR260.out)⟩, ⟨by repeat with_reducible first | exact HB.out | apply below_alloc | apply pw_below_drewN | apply below_drew1⟩⟩
                        · rw [if_neg c32] at H
                          have c32b0 : ((t269.length : Int) == 0) = false := beq_eq_false_iff_ne.mpr c32
                          have c32b1 : ((t269.length : Int) != 0) = true := bne_iff_ne.mpr c32
                          have c32b2 : ¬ (t269 = []) := fun h_ => c32 (by rw [h_]; rfl)
                          obtain rfl := Option.some.inj H
                          obtain ⟨Ao34, co34, eo34⟩ := Kd.R_slice HO_18.out
                          subst eo34
                          go_wp2
                          repeat (go_quiet (fail); try go_wp2)
                          go_ret
                          exact ⟨by first | rfl | (simp [errW_none, errW_some] <;> rfl) | (simp [*, errW_none, errW_some] <;> rfl), by repeat with_reducible first | exact HB.out | apply below_alloc | apply pw_below_drewN | apply below_drew1⟩
                      · rw [if_neg c31] at H
                        have c31b0 : (t270 == 1) = false := beq_eq_false_iff_ne.mpr c31
                        have c31b1 : (t270 != 1) = true := bne_iff_ne.mpr c31
                        (first | rw [c31b0] | (simp only [i64_w, i32_w]; rw [c31b0]) | skip)
                        obtain rfl := Option.some.inj H
                        go_wp2
                        repeat (go_quiet (fail); try go_wp2)
                        go_ret
                        exact ⟨by first | rfl | (simp [errW_none, errW_some] <;> rfl) | (simp [*, errW_none, errW_some] <;> rfl), by repeat with_reducible first | exact HB.out | apply below_alloc | apply pw_below_drewN | apply below_drew1⟩
                    · replace c30 := Bool.eq_false_iff.mpr c30
                      subst c30
                      have H1 : (if t270 = 0 then ((ferruleref13_Holes.f kj15 l0 a3 a4).bind fun t276 => ((ferruleref9_Pieces.f kj15 t269 t276).bind fun t279 => (if t279 = true then (ferrulelaw15_tells.j1 kj15 l0 a1 a2 t261 t262 t265 t266 t267 t268 t274) else (some false)))) else (some false)) = some r := by rw [if_neg (show ¬ (false = true) by decide)] at H; exact H
                      clear H
                      have H := H1
                      clear H1
                      by_cases c35 : t270 = 0
                      · rw [if_pos c35] at H
                        have c35b0 : (t270 == 0) = true := beq_iff_eq.mpr c35
                        have c35b1 : (t270 != 0) = false := bne_eq_false_iff_eq.mpr c35
                        clear c35
                        replace H := Option.bind_eq_some_iff.mp H
                        obtain ⟨t276, A360, H⟩ := H
                        replace H : ((ferruleref9_Pieces.f kj15 t269 t276).bind fun t279 => (if t279 = true then (ferrulelaw15_tells.j1 kj15 l0 a1 a2 t261 t262 t265 t266 t267 t268 t274) else (some false))) = some r := H
                        have A36 := Aside0.mk A360
                        clear A360
                        replace H := Option.bind_eq_some_iff.mp H
                        obtain ⟨t279, A370, H⟩ := H
                        replace H : (if t279 = true then (ferrulelaw15_tells.j1 kj15 l0 a1 a2 t261 t262 t265 t266 t267 t268 t274) else (some false)) = some r := H
                        have A37 := Aside0.mk A370
                        clear A370
                        by_cases c38 : t279 = true
                        · subst c38
                          have H1 : (ferrulelaw15_tells.j1 kj15 l0 a1 a2 t261 t262 t265 t266 t267 t268 t274) = some r := by rw [if_pos rfl] at H; exact H
                          clear H
                          have H := H1
                          clear H1
                          have H' := Aside0.mk H
                          clear H
                          go_wp2_with (first | (go_at_call 23; (with_reducible refine (ferruleref13_Holes.calls kj15 _ _ l0 a3 a4 t276 _ ?side1 ?side2 A36.out).mono ?_); (case side1 => repeat (first | exact (Kd.C_below HR0.out HB.out) | (with_reducible refine Kd.C_alloc ?_ _) | (with_reducible refine Kd.C_drewN ?_ _) | (with_reducible refine Kd.C_drew ?_))); (case side2 => exact HC0.out); rintro e w39 ⟨v277, rfl, ho0, hb⟩; have n0_ := Aside0.mk (Kd.R_below (by (with_reducible repeat (first | apply Kd.R_alloc | apply Kd.R_drewN | apply Kd.R_drew)); exact HO_12.out) hb); have n1_ := Aside0.mk (Kd.R_elder' (by (with_reducible repeat (first | apply Kd.R_alloc | apply Kd.R_drewN | apply Kd.R_drew)); exact HO_18.out) (Kd.R_base ho0) hb); have n2_ := Aside0.mk (Kd.R_lower (Kd.R_new' ho0 (Kd.R_lt (by (with_reducible repeat (first | apply Kd.R_alloc | apply Kd.R_drewN | apply Kd.R_drew)); exact HO_18.out))) (below_size (by repeat with_reducible first | exact HB.out | apply below_alloc | apply pw_below_drewN | apply below_drew1))); have n3_ := Aside0.mk (Kd.C_below (by repeat (first | (with_reducible exact HR260.out) | (with_reducible refine Kd.C_alloc ?_ _) | (with_reducible refine Kd.C_drewN ?_ _) | (with_reducible refine Kd.C_drew ?_) | exact HR260.out)) hb); have n4_ := Aside0.mk (below_step (by repeat with_reducible first | exact HB.out | apply below_alloc | apply pw_below_drewN | apply below_drew1) hb); clear HO_12; clear HO_18; clear HR260; clear HB; have HO_12 := n0_; have HO_18 := n1_; have HO278 := n2_; have HR260 := n3_; have HB := n4_; clear n0_ n1_ n2_ n3_ n4_; (try clear hb); (try clear hb2); (try clear hk); (try clear hi); (try clear ho0); obtain ⟨Ao40, co40, eo40⟩ := Kd.R_slice HO_18.out; subst eo40; obtain ⟨Ao41, co41, eo41⟩ := Kd.R_slice HO278.out; subst eo41) | (go_at_call 22; (with_reducible refine (ferruleref9_Pieces.calls kj15 _ _ t269 _ _ t276 true _ ?side1 ?side2 ?side3 ?side4 A37.out).mono ?_); (case side1 => repeat (first | exact (Kd.R_reads' HO_18.out).2.2 | (with_reducible refine Kd.C_alloc ?_ _) | (with_reducible refine Kd.C_drewN ?_ _) | (with_reducible refine Kd.C_drew ?_))); (case side2 => exact (Kd.R_reads' HO_18.out).2.1); (case side3 => repeat (first | exact (Kd.R_reads' HO278.out).2.2 | (with_reducible refine Kd.C_alloc ?_ _) | (with_reducible refine Kd.C_drewN ?_ _) | (with_reducible refine Kd.C_drew ?_))); (case side4 => exact (Kd.R_reads' HO278.out).2.1); rintro e w' ⟨rfl, ⟨nd, rfl⟩⟩; (try first | exact ⟨rfl, _, World.drewN_drewN _ _ _⟩ | exact ⟨rfl, _, Eq.trans (World.drewN_drewN _ _ _) (congrArg (World.drewN _) (Nat.add_assoc _ _ _))⟩)))
                          repeat (go_quiet (fail); try go_wp2_with (first | (go_at_call 23; (with_reducible refine (ferruleref13_Holes.calls kj15 _ _ l0 a3 a4 t276 _ ?side1 ?side2 A36.out).mono ?_); (case side1 => repeat (first | exact (Kd.C_below HR0.out HB.out) | (with_reducible refine Kd.C_alloc ?_ _) | (with_reducible refine Kd.C_drewN ?_ _) | (with_reducible refine Kd.C_drew ?_))); (case side2 => exact HC0.out); rintro e w39 ⟨v277, rfl, ho0, hb⟩; have n0_ := Aside0.mk (Kd.R_below (by (with_reducible repeat (first | apply Kd.R_alloc | apply Kd.R_drewN | apply Kd.R_drew)); exact HO_12.out) hb); have n1_ := Aside0.mk (Kd.R_elder' (by (with_reducible repeat (first | apply Kd.R_alloc | apply Kd.R_drewN | apply Kd.R_drew)); exact HO_18.out) (Kd.R_base ho0) hb); have n2_ := Aside0.mk (Kd.R_lower (Kd.R_new' ho0 (Kd.R_lt (by (with_reducible repeat (first | apply Kd.R_alloc | apply Kd.R_drewN | apply Kd.R_drew)); exact HO_18.out))) (below_size (by repeat with_reducible first | exact HB.out | apply below_alloc | apply pw_below_drewN | apply below_drew1))); have n3_ := Aside0.mk (Kd.C_below (by repeat (first | (with_reducible exact HR260.out) | (with_reducible refine Kd.C_alloc ?_ _) | (with_reducible refine Kd.C_drewN ?_ _) | (with_reducible refine Kd.C_drew ?_) | exact HR260.out)) hb); have n4_ := Aside0.mk (below_step (by repeat with_reducible first | exact HB.out | apply below_alloc | apply pw_below_drewN | apply below_drew1) hb); clear HO_12; clear HO_18; clear HR260; clear HB; have HO_12 := n0_; have HO_18 := n1_; have HO278 := n2_; have HR260 := n3_; have HB := n4_; clear n0_ n1_ n2_ n3_ n4_; (try clear hb); (try clear hb2); (try clear hk); (try clear hi); (try clear ho0); obtain ⟨Ao40, co40, eo40⟩ := Kd.R_slice HO_18.out; subst eo40; obtain ⟨Ao41, co41, eo41⟩ := Kd.R_slice HO278.out; subst eo41) | (go_at_call 22; (with_reducible refine (ferruleref9_Pieces.calls kj15 _ _ t269 _ _ t276 true _ ?side1 ?side2 ?side3 ?side4 A37.out).mono ?_); (case side1 => repeat (first | exact (Kd.R_reads' HO_18.out).2.2 | (with_reducible refine Kd.C_alloc ?_ _) | (with_reducible refine Kd.C_drewN ?_ _) | (with_reducible refine Kd.C_drew ?_))); (case side2 => exact (Kd.R_reads' HO_18.out).2.1); (case side3 => repeat (first | exact (Kd.R_reads' HO278.out).2.2 | (with_reducible refine Kd.C_alloc ?_ _) | (with_reducible refine Kd.C_drewN ?_ _) | (with_reducible refine Kd.C_drew ?_))); (case side4 => exact (Kd.R_reads' HO278.out).2.1); rintro e w' ⟨rfl, ⟨nd, rfl⟩⟩; (try first | exact ⟨rfl, _, World.drewN_drewN _ _ _⟩ | exact ⟨rfl, _, Eq.trans (World.drewN_drewN _ _ _) (congrArg (World.drewN _) (Nat.add_assoc _ _ _))⟩))))
                          go_meet
                          case rel => exact ⟨_, H', ⟨by have := HJ15.out; first | omega | exact Nat.le_refl _⟩, ⟨by (with_reducible repeat (first | apply Kd.R_alloc | apply Kd.R_drewN | apply Kd.R_drew)); exact HO_12.out⟩, ⟨by repeat (first | (with_reducible exact HR260.out) | (with_reducible refine Kd.C_alloc ?_ _) | (with_reducible refine Kd.C_drewN ?_ _) | (with_reducible refine Kd.C_drew ?_) | exact HR260.out)⟩, ⟨by repeat with_reducible first | exact HB.out | apply below_alloc | apply pw_below_drewN | apply below_drew1⟩⟩
                        · replace c38 := Bool.eq_false_iff.mpr c38
                          subst c38
                          have H1 : (some false) = some r := by rw [if_neg (show ¬ (false = true) by decide)] at H; exact H
                          clear H
                          have H := H1
                          clear H1
                          obtain rfl := Option.some.inj H
                          go_wp2_with (first | (go_at_call 23; (with_reducible refine (ferruleref13_Holes.calls kj15 _ _ l0 a3 a4 t276 _ ?side1 ?side2 A36.out).mono ?_); (case side1 => repeat (first | exact (Kd.C_below HR0.out HB.out) | (with_reducible refine Kd.C_alloc ?_ _) | (with_reducible refine Kd.C_drewN ?_ _) | (with_reducible refine Kd.C_drew ?_))); (case side2 => exact HC0.out); rintro e w42 ⟨v277, rfl, ho0, hb⟩; have n0_ := Aside0.mk (Kd.R_below (by (with_reducible repeat (first | apply Kd.R_alloc | apply Kd.R_drewN | apply Kd.R_drew)); exact HO_12.out) hb); have n1_ := Aside0.mk (Kd.R_elder' (by (with_reducible repeat (first | apply Kd.R_alloc | apply Kd.R_drewN | apply Kd.R_drew)); exact HO_18.out) (Kd.R_base ho0) hb); have n2_ := Aside0.mk (Kd.R_lower (Kd.R_new' ho0 (Kd.R_lt (by (with_reducible repeat (first | apply Kd.R_alloc | apply Kd.R_drewN | apply Kd.R_drew)); exact HO_18.out))) (below_size (by repeat with_reducible first | exact HB.out | apply below_alloc | apply pw_below_drewN | apply below_drew1))); have n3_ := Aside0.mk (Kd.C_below (by repeat (first | (with_reducible exact HR260.out) | (with_reducible refine Kd.C_alloc ?_ _) | (with_reducible refine Kd.C_drewN ?_ _) | (with_reducible refine Kd.C_drew ?_) | exact HR260.out)) hb); have n4_ := Aside0.mk (below_step (by repeat with_reducible first | exact HB.out | apply below_alloc | apply pw_below_drewN | apply below_drew1) hb); clear HO_12; clear HO_18; clear HR260; clear HB; have HO_12 := n0_; have HO_18 := n1_; have HO278 := n2_; have HR260 := n3_; have HB := n4_; clear n0_ n1_ n2_ n3_ n4_; (try clear hb); (try clear hb2); (try clear hk); (try clear hi); (try clear ho0); obtain ⟨Ao43, co43, eo43⟩ := Kd.R_slice HO_18.out; subst eo43; obtain ⟨Ao44, co44, eo44⟩ := Kd.R_slice HO278.out; subst eo44) | (go_at_call 22; (with_reducible refine (ferruleref9_Pieces.calls kj15 _ _ t269 _ _ t276 false _ ?side1 ?side2 ?side3 ?side4 A37.out).mono ?_); (case side1 => repeat (first | exact (Kd.R_reads' HO_18.out).2.2 | (with_reducible refine Kd.C_alloc ?_ _) | (with_reducible refine Kd.C_drewN ?_ _) | (with_reducible refine Kd.C_drew ?_))); (case side2 => exact (Kd.R_reads' HO_18.out).2.1); (case side3 => repeat (first | exact (Kd.R_reads' HO278.out).2.2 | (with_reducible refine Kd.C_alloc ?_ _) | (with_reducible refine Kd.C_drewN ?_ _) | (with_reducible refine Kd.C_drew ?_))); (case side4 => exact (Kd.R_reads' HO278.out).2.1); rintro e w' ⟨rfl, ⟨nd, rfl⟩⟩; (try first | exact ⟨rfl, _, World.drewN_drewN _ _ _⟩ | exact ⟨rfl, _, Eq.trans (World.drewN_drewN _ _ _) (congrArg (World.drewN _) (Nat.add_assoc _ _ _))⟩)))
                          repeat (go_quiet (fail); try go_wp2_with (first | (go_at_call 23; (with_reducible refine (ferruleref13_Holes.calls kj15 _ _ l0 a3 a4 t276 _ ?side1 ?side2 A36.out).mono ?_); (case side1 => repeat (first | exact (Kd.C_below HR0.out HB.out) | (with_reducible refine Kd.C_alloc ?_ _) | (with_reducible refine Kd.C_drewN ?_ _) | (with_reducible refine Kd.C_drew ?_))); (case side2 => exact HC0.out); rintro e w42 ⟨v277, rfl, ho0, hb⟩; have n0_ := Aside0.mk (Kd.R_below (by (with_reducible repeat (first | apply Kd.R_alloc | apply Kd.R_drewN | apply Kd.R_drew)); exact HO_12.out) hb); have n1_ := Aside0.mk (Kd.R_elder' (by (with_reducible repeat (first | apply Kd.R_alloc | apply Kd.R_drewN | apply Kd.R_drew)); exact HO_18.out) (Kd.R_base ho0) hb); have n2_ := Aside0.mk (Kd.R_lower (Kd.R_new' ho0 (Kd.R_lt (by (with_reducible repeat (first | apply Kd.R_alloc | apply Kd.R_drewN | apply Kd.R_drew)); exact HO_18.out))) (below_size (by repeat with_reducible first | exact HB.out | apply below_alloc | apply pw_below_drewN | apply below_drew1))); have n3_ := Aside0.mk (Kd.C_below (by repeat (first | (with_reducible exact HR260.out) | (with_reducible refine Kd.C_alloc ?_ _) | (with_reducible refine Kd.C_drewN ?_ _) | (with_reducible refine Kd.C_drew ?_) | exact HR260.out)) hb); have n4_ := Aside0.mk (below_step (by repeat with_reducible first | exact HB.out | apply below_alloc | apply pw_below_drewN | apply below_drew1) hb); clear HO_12; clear HO_18; clear HR260; clear HB; have HO_12 := n0_; have HO_18 := n1_; have HO278 := n2_; have HR260 := n3_; have HB := n4_; clear n0_ n1_ n2_ n3_ n4_; (try clear hb); (try clear hb2); (try clear hk); (try clear hi); (try clear ho0); obtain ⟨Ao43, co43, eo43⟩ := Kd.R_slice HO_18.out; subst eo43; obtain ⟨Ao44, co44, eo44⟩ := Kd.R_slice HO278.out; subst eo44) | (go_at_call 22; (with_reducible refine (ferruleref9_Pieces.calls kj15 _ _ t269 _ _ t276 false _ ?side1 ?side2 ?side3 ?side4 A37.out).mono ?_); (case side1 => repeat (first | exact (Kd.R_reads' HO_18.out).2.2 | (with_reducible refine Kd.C_alloc ?_ _) | (with_reducible refine Kd.C_drewN ?_ _) | (with_reducible refine Kd.C_drew ?_))); (case side2 => exact (Kd.R_reads' HO_18.out).2.1); (case side3 => repeat (first | exact (Kd.R_reads' HO278.out).2.2 | (with_reducible refine Kd.C_alloc ?_ _) | (with_reducible refine Kd.C_drewN ?_ _) | (with_reducible refine Kd.C_drew ?_))); (case side4 => exact (Kd.R_reads' HO278.out).2.1); rintro e w' ⟨rfl, ⟨nd, rfl⟩⟩; (try first | exact ⟨rfl, _, World.drewN_drewN _ _ _⟩ | exact ⟨rfl, _, Eq.trans (World.drewN_drewN _ _ _) (congrArg (World.drewN _) (Nat.add_assoc _ _ _))⟩))))
                          go_ret
                          exact ⟨by first | rfl | (simp [errW_none, errW_some] <;> rfl) | (simp [*, errW_none, errW_some] <;> rfl), by repeat with_reducible first | exact HB.out | apply below_alloc | apply pw_below_drewN | apply below_drew1⟩
                      · rw [if_neg c35] at H
                        have c35b0 : (t270 == 0) = false := beq_eq_false_iff_ne.mpr c35
                        have c35b1 : (t270 != 0) = true := bne_iff_ne.mpr c35
                        obtain rfl := Option.some.inj H
                        go_wp2
                        repeat (go_quiet (fail); try go_wp2)
                        go_ret
                        exact ⟨by first | rfl | (simp [errW_none, errW_some] <;> rfl) | (simp [*, errW_none, errW_some] <;> rfl), by repeat with_reducible first | exact HB.out | apply below_alloc | apply pw_below_drewN | apply below_drew1⟩
                case rest =>
                  as_aux_lemma =>
                    clear HC29
                    try clear c1
                    try clear c2
                    try clear p2
                    try clear q2
                    try clear c3
                    try clear c6
                    try clear c7
                    try clear c8
                    try clear c8b0
                    try clear c8b1
                    try clear c9
                    try clear c9b0
                    try clear c9b1
                    try clear c12
                    try clear c14
                    try clear q21
                    try clear c27
                    try clear c30
                    try clear c31
                    try clear c31b0
                    try clear c31b1
                    try clear c32
                    try clear c32b0
                    try clear c32b1
                    try clear c32b2
                    try clear c35
                    try clear c35b0
                    try clear c35b1
                    try clear c38
                    try clear p2
                    try clear q2
                    try clear q21
                    obtain ⟨kq, HA, HJ28, HO_12, HR260, HB⟩ := hcut
                    cases kq with
                    | zero => exact absurd HA.out (by simp [ferrulelaw15_tells.j1])
                    | succ kj28 =>
                      have H := HA.out
                      clear HA
                      simp only [ferrulelaw15_tells.j1] at H
                      have HC45 := Aside0.mk H
                      clear H
                      go_upto_region 13 with (fail)
                      repeat (go_quiet (fail); go_upto_region 13 with (fail))
                      go_cut [113] (fun v113 wc => ∃ (kq : Nat) (x113_44 : Bool), v113 = .bool x113_44 ∧ Aside0 (ferrulelaw15_tells.j2 kq l0 a1 a2 t261 t262 t265 t266 t267 t268 x113_44 = some r) ∧ Aside0 (kq ≤ kj28) ∧ Aside0 (Kd.R (Kd.int .i64) 3 wc w.heap.size (fun _ => True) v263 t261) ∧ Aside0 (Kd.C k39 wc Ao22 y257.length y257) ∧ Aside0 (Below w.heap.size w wc))
                      case first =>
                        as_aux_lemma =>
                          have H := HC45.out
                          clear HC45
                          by_cases c46 : t274 = true
                          · subst c46
                            have H1 : (if a1 < 1 then (ferrulelaw15_tells.j2 kj28 l0 a1 a2 t261 t262 t265 t266 t267 t268 true) else (if a1 > 512 then (ferrulelaw15_tells.j2 kj28 l0 a1 a2 t261 t262 t265 t266 t267 t268 true) else (if a2 < 1 then (ferrulelaw15_tells.j2 kj28 l0 a1 a2 t261 t262 t265 t266 t267 t268 true) else (if a2 > a1 then (ferrulelaw15_tells.j2 kj28 l0 a1 a2 t261 t262 t265 t266 t267 t268 true) else ((ferruleref9_Ends.f l0 a1).bind fun t280 => (ferrulelaw15_tells.j2 kj28 l0 a1 a2 t261 t262 t265 t266 t267 t268 (!t280))))))) = some r := by rw [if_pos rfl] at H; exact H
                            clear H
                            have H := H1
                            clear H1
                            by_cases c47 : a1 < 1
                            · rw [if_pos c47] at H
                              have c47b0 : decide (a1 < 1) = true := decide_eq_true c47
                              clear c47
                              (first | rw [c47b0] | (simp only [i64_w, i32_w]; rw [c47b0]) | skip)
                              have H' := Aside0.mk H
                              clear H
                              go_wp2
                              repeat (go_quiet (fail); try go_wp2)
                              go_meet
                              case rel => exact ⟨_, (true), (by first | rfl | (simp; done) | (simp [*]; done)), H', ⟨by have := HJ15.out; have := HJ28.out; first | omega | exact Nat.le_refl _⟩, ⟨by (with_reducible repeat (first | apply Kd.R_alloc | apply Kd.R_drewN | apply Kd.R_drew)); exact HO_12.out⟩, ⟨by repeat (first | (with_reducible exact HR260.out) | (with_reducible refine Kd.C_alloc ?_ _) | (with_reducible refine Kd.C_drewN ?_ _) | (with_reducible refine Kd.C_drew ?_) | exact HR260.out)⟩, ⟨by repeat with_reducible first | exact HB.out | apply below_alloc | apply pw_below_drewN | apply below_drew1⟩⟩
                            · rw [if_neg c47] at H
                              have c47b0 : decide (a1 < 1) = false := decide_eq_false c47
                              clear c47
                              (first | rw [c47b0] | (simp only [i64_w, i32_w]; rw [c47b0]) | skip)
                              by_cases c48 : a1 > 512
                              · rw [if_pos c48] at H
                                have c48b0 : decide (512 < a1) = true := decide_eq_true c48
                                clear c48
                                have H' := Aside0.mk H
                                clear H
                                go_wp2
                                repeat (go_quiet (fail); try go_wp2)
                                go_meet
                                case rel => exact ⟨_, (true), (by first | rfl | (simp; done) | (simp [*]; done)), H', ⟨by have := HJ15.out; have := HJ28.out; first | omega | exact Nat.le_refl _⟩, ⟨by (with_reducible repeat (first | apply Kd.R_alloc | apply Kd.R_drewN | apply Kd.R_drew)); exact HO_12.out⟩, ⟨by repeat (first | (with_reducible exact HR260.out) | (with_reducible refine Kd.C_alloc ?_ _) | (with_reducible refine Kd.C_drewN ?_ _) | (with_reducible refine Kd.C_drew ?_) | exact HR260.out)⟩, ⟨by repeat with_reducible first | exact HB.out | apply below_alloc | apply pw_below_drewN | apply below_drew1⟩⟩
                              · rw [if_neg c48] at H
                                have c48b0 : decide (512 < a1) = false := decide_eq_false c48
                                clear c48
                                by_cases c49 : a2 < 1
                                · rw [if_pos c49] at H
                                  have c49b0 : decide (a2 < 1) = true := decide_eq_true c49
                                  clear c49
                                  have H' := Aside0.mk H
                                  clear H
                                  go_wp2
                                  repeat (go_quiet (fail); try go_wp2)
                                  go_meet
                                  case rel => exact ⟨_, (true), (by first | rfl | (simp; done) | (simp [*]; done)), H', ⟨by have := HJ15.out; have := HJ28.out; first | omega | exact Nat.le_refl _⟩, ⟨by (with_reducible repeat (first | apply Kd.R_alloc | apply Kd.R_drewN | apply Kd.R_drew)); exact HO_12.out⟩, ⟨by repeat (first | (with_reducible exact HR260.out) | (with_reducible refine Kd.C_alloc ?_ _) | (with_reducible refine Kd.C_drewN ?_ _) | (with_reducible refine Kd.C_drew ?_) | exact HR260.out)⟩, ⟨by repeat with_reducible first | exact HB.out | apply below_alloc | apply pw_below_drewN | apply below_drew1⟩⟩
                                · rw [if_neg c49] at H
                                  have c49b0 : decide (a2 < 1) = false := decide_eq_false c49
                                  clear c49
                                  by_cases c50 : a2 > a1
                                  · rw [if_pos c50] at H
                                    have c50b0 : decide (a1 < a2) = true := decide_eq_true c50
                                    clear c50
                                    have H' := Aside0.mk H
                                    clear H
                                    go_wp2
                                    repeat (go_quiet (fail); try go_wp2)
                                    go_meet
                                    case rel => exact ⟨_, (true), (by first | rfl | (simp; done) | (simp [*]; done)), H', ⟨by have := HJ15.out; have := HJ28.out; first | omega | exact Nat.le_refl _⟩, ⟨by (with_reducible repeat (first | apply Kd.R_alloc | apply Kd.R_drewN | apply Kd.R_drew)); exact HO_12.out⟩, ⟨by repeat (first | (with_reducible exact HR260.out) | (with_reducible refine Kd.C_alloc ?_ _) | (with_reducible refine Kd.C_drewN ?_ _) | (with_reducible refine Kd.C_drew ?_) | exact HR260.out)⟩, ⟨by repeat with_reducible first | exact HB.out | apply below_alloc | apply pw_below_drewN | apply below_drew1⟩⟩
                                  · rw [if_neg c50] at H
                                    have c50b0 : decide (a1 < a2) = false := decide_eq_false c50
                                    clear c50
                                    replace H := Option.bind_eq_some_iff.mp H
                                    obtain ⟨t280, A510, H⟩ := H
                                    replace H : (ferrulelaw15_tells.j2 kj28 l0 a1 a2 t261 t262 t265 t266 t267 t268 (!t280)) = some r := H
                                    have A51 := Aside0.mk A510
                                    clear A510
                                    have H' := Aside0.mk H
                                    clear H
                                    go_wp2_with (first | (go_at_call 24; (with_reducible refine (ferruleref9_Ends.calls _ _ l0 a1 t280 _ ?side1 ?side2 A51.out).mono ?_); (case side1 => repeat (first | exact (Kd.C_below HR0.out HB.out) | (with_reducible refine Kd.C_alloc ?_ _) | (with_reducible refine Kd.C_drewN ?_ _) | (with_reducible refine Kd.C_drew ?_))); (case side2 => exact HC0.out); rintro e w' ⟨rfl, ⟨nd, rfl⟩⟩; (try first | exact ⟨rfl, _, World.drewN_drewN _ _ _⟩ | exact ⟨rfl, _, Eq.trans (World.drewN_drewN _ _ _) (congrArg (World.drewN _) (Nat.add_assoc _ _ _))⟩)))
                                    repeat (go_quiet (first | (go_at_call 24; (with_reducible refine (ferruleref9_Ends.calls _ _ l0 a1 t280 _ ?side1 ?side2 A51.out).mono ?_); (case side1 => repeat (first | exact (Kd.C_below HR0.out HB.out) | (with_reducible refine Kd.C_alloc ?_ _) | (with_reducible refine Kd.C_drewN ?_ _) | (with_reducible refine Kd.C_drew ?_))); (case side2 => exact HC0.out); rintro e w' ⟨rfl, ⟨nd, rfl⟩⟩; (try first | exact ⟨rfl, _, World.drewN_drewN _ _ _⟩ | exact ⟨rfl, _, Eq.trans (World.drewN_drewN _ _ _) (congrArg (World.drewN _) (Nat.add_assoc _ _ _))⟩))); try go_wp2_with (first | (go_at_call 24; (with_reducible refine (ferruleref9_Ends.calls _ _ l0 a1 t280 _ ?side1 ?side2 A51.out).mono ?_); (case side1 => repeat (first | exact (Kd.C_below HR0.out HB.out) | (with_reducible refine Kd.C_alloc ?_ _) | (with_reducible refine Kd.C_drewN ?_ _) | (with_reducible refine Kd.C_drew ?_))); (case side2 => exact HC0.out); rintro e w' ⟨rfl, ⟨nd, rfl⟩⟩; (try first | exact ⟨rfl, _, World.drewN_drewN _ _ _⟩ | exact ⟨rfl, _, Eq.trans (World.drewN_drewN _ _ _) (congrArg (World.drewN _) (Nat.add_assoc _ _ _))⟩))))
                                    go_meet
                                    case rel => exact ⟨_, (!t280), (by first | rfl | (simp; done) | (simp [*]; done)), H', ⟨by have := HJ15.out; have := HJ28.out; first | omega | exact Nat.le_refl _⟩, ⟨by (with_reducible repeat (first | apply Kd.R_alloc | apply Kd.R_drewN | apply Kd.R_drew)); exact HO_12.out⟩, ⟨by repeat (first | (with_reducible exact HR260.out) | (with_reducible refine Kd.C_alloc ?_ _) | (with_reducible refine Kd.C_drewN ?_ _) | (with_reducible refine Kd.C_drew ?_) | exact HR260.out)⟩, ⟨by repeat with_reducible first | exact HB.out | apply below_alloc | apply pw_below_drewN | apply below_drew1⟩⟩
                          · replace c46 := Bool.eq_false_iff.mpr c46
                            subst c46
                            have H1 : (ferrulelaw15_tells.j2 kj28 l0 a1 a2 t261 t262 t265 t266 t267 t268 true) = some r := by rw [if_neg (show ¬ (false = true) by decide)] at H; exact H
                            clear H
                            have H := H1
                            clear H1
                            have H' := Aside0.mk H
                            clear H
                            go_wp2
                            repeat (go_quiet (fail); try go_wp2)
                            go_meet
                            case rel => exact ⟨_, (true), (by first | rfl | (simp; done) | (simp [*]; done)), H', ⟨by have := HJ15.out; have := HJ28.out; first | omega | exact Nat.le_refl _⟩, ⟨by (with_reducible repeat (first | apply Kd.R_alloc | apply Kd.R_drewN | apply Kd.R_drew)); exact HO_12.out⟩, ⟨by repeat (first | (with_reducible exact HR260.out) | (with_reducible refine Kd.C_alloc ?_ _) | (with_reducible refine Kd.C_drewN ?_ _) | (with_reducible refine Kd.C_drew ?_) | exact HR260.out)⟩, ⟨by repeat with_reducible first | exact HB.out | apply below_alloc | apply pw_below_drewN | apply below_drew1⟩⟩
                      case rest =>
                        as_aux_lemma =>
                          clear HC45
                          try clear c1
                          try clear c2
                          try clear p2
                          try clear q2
                          try clear c3
                          try clear c4
                          try clear c5
                          try clear c6
                          try clear c7
                          try clear c8
                          try clear c8b0
                          try clear c8b1
                          try clear c9
                          try clear c9b0
                          try clear c9b1
                          try clear c12
                          try clear c14
                          try clear q21
                          try clear c27
                          try clear c30
                          try clear c31
                          try clear c31b0
                          try clear c31b1
                          try clear c32
                          try clear c32b0
                          try clear c32b1
                          try clear c32b2
                          try clear c35
                          try clear c35b0
                          try clear c35b1
                          try clear c38
                          try clear c46
                          try clear c47
                          try clear c47b0
                          try clear c48
                          try clear c48b0
                          try clear c49
                          try clear c49b0
                          try clear c50
                          try clear c50b0
                          try clear p2
                          try clear q2
                          try clear q21
                          obtain ⟨kq, x113_44, rfl, HA, HJ44, HO_12, HR260, HB⟩ := hcut
                          cases kq with
                          | zero => exact absurd HA.out (by simp [ferrulelaw15_tells.j2])
                          | succ kj44 =>
                            have H := HA.out
                            clear HA
                            simp only [ferrulelaw15_tells.j2] at H
                            by_cases c52 : x113_44 = true
                            · subst c52
                              have H1 : (if t262 = 1 then (if t268 = 1 then (if (t261.length : Int) = 0 then (if t265 = 0 then (if t266 = 0 then (some (t267 == 0)) else (some false)) else (some false)) else (some false)) else (some false)) else (some false)) = some r := by rw [if_pos rfl] at H; exact H
                              clear H
                              have H := H1
                              clear H1
                              by_cases c53 : t262 = 1
                              · rw [if_pos c53] at H
                                have c53b0 : (t262 == 1) = true := beq_iff_eq.mpr c53
                                have c53b1 : (t262 != 1) = false := bne_eq_false_iff_eq.mpr c53
                                clear c53
                                by_cases c54 : t268 = 1
                                · rw [if_pos c54] at H
                                  have c54b0 : (t268 == 1) = true := beq_iff_eq.mpr c54
                                  have c54b1 : (t268 != 1) = false := bne_eq_false_iff_eq.mpr c54
                                  clear c54
                                  by_cases c55 : (t261.length : Int) = 0
                                  · rw [if_pos c55] at H
                                    have c55b0 : ((t261.length : Int) == 0) = true := beq_iff_eq.mpr c55
                                    have c55b1 : ((t261.length : Int) != 0) = false := bne_eq_false_iff_eq.mpr c55
                                    clear c55
                                    by_cases c56 : t265 = 0
                                    · rw [if_pos c56] at H
                                      have c56b0 : (t265 == 0) = true := beq_iff_eq.mpr c56
                                      have c56b1 : (t265 != 0) = false := bne_eq_false_iff_eq.mpr c56
                                      clear c56
                                      by_cases c57 : t266 = 0
                                      · rw [if_pos c57] at H
                                        have c57b0 : (t266 == 0) = true := beq_iff_eq.mpr c57
                                        have c57b1 : (t266 != 0) = false := bne_eq_false_iff_eq.mpr c57
                                        clear c57
                                        obtain rfl := Option.some.inj H
                                        obtain ⟨Ao58, co58, eo58⟩ := Kd.R_slice HO_12.out
                                        subst eo58
                                        go_wp2
                                        repeat (go_quiet (fail); try go_wp2)
                                        go_ret
                                        exact ⟨by first | rfl | (simp [errW_none, errW_some] <;> rfl) | (simp [*, errW_none, errW_some] <;> rfl), by repeat with_reducible first | exact HB.out | apply below_alloc | apply pw_below_drewN | apply below_drew1⟩
                                      · rw [if_neg c57] at H
                                        have c57b0 : (t266 == 0) = false := beq_eq_false_iff_ne.mpr c57
                                        have c57b1 : (t266 != 0) = true := bne_iff_ne.mpr c57
                                        obtain rfl := Option.some.inj H
                                        obtain ⟨Ao59, co59, eo59⟩ := Kd.R_slice HO_12.out
                                        subst eo59
                                        go_wp2
                                        repeat (go_quiet (fail); try go_wp2)
                                        go_ret
                                        exact ⟨by first | rfl | (simp [errW_none, errW_some] <;> rfl) | (simp [*, errW_none, errW_some] <;> rfl), by repeat with_reducible first | exact HB.out | apply below_alloc | apply pw_below_drewN | apply below_drew1⟩
                                    · rw [if_neg c56] at H
                                      have c56b0 : (t265 == 0) = false := beq_eq_false_iff_ne.mpr c56
                                      have c56b1 : (t265 != 0) = true := bne_iff_ne.mpr c56
                                      obtain rfl := Option.some.inj H
                                      obtain ⟨Ao60, co60, eo60⟩ := Kd.R_slice HO_12.out
                                      subst eo60
                                      go_wp2
                                      repeat (go_quiet (fail); try go_wp2)
                                      go_ret
                                      exact ⟨by first | rfl | (simp [errW_none, errW_some] <;> rfl) | (simp [*, errW_none, errW_some] <;> rfl), by repeat with_reducible first | exact HB.out | apply below_alloc | apply pw_below_drewN | apply below_drew1⟩
                                  · rw [if_neg c55] at H
                                    have c55b0 : ((t261.length : Int) == 0) = false := beq_eq_false_iff_ne.mpr c55
                                    have c55b1 : ((t261.length : Int) != 0) = true := bne_iff_ne.mpr c55
                                    have c55b2 : ¬ (t261 = []) := fun h_ => c55 (by rw [h_]; rfl)
                                    obtain rfl := Option.some.inj H
                                    obtain ⟨Ao61, co61, eo61⟩ := Kd.R_slice HO_12.out
                                    subst eo61
                                    go_wp2
                                    repeat (go_quiet (fail); try go_wp2)
                                    go_ret
                                    exact ⟨by first | rfl | (simp [errW_none, errW_some] <;> rfl) | (simp [*, errW_none, errW_some] <;> rfl), by repeat with_reducible first | exact HB.out | apply below_alloc | apply pw_below_drewN | apply below_drew1⟩
                                · rw [if_neg c54] at H
                                  have c54b0 : (t268 == 1) = false := beq_eq_false_iff_ne.mpr c54
                                  have c54b1 : (t268 != 1) = true := bne_iff_ne.mpr c54
                                  obtain rfl := Option.some.inj H
                                  go_wp2
                                  repeat (go_quiet (fail); try go_wp2)
                                  go_ret
                                  exact ⟨by first | rfl | (simp [errW_none, errW_some] <;> rfl) | (simp [*, errW_none, errW_some] <;> rfl), by repeat with_reducible first | exact HB.out | apply below_alloc | apply pw_below_drewN | apply below_drew1⟩
                              · rw [if_neg c53] at H
                                have c53b0 : (t262 == 1) = false := beq_eq_false_iff_ne.mpr c53
                                have c53b1 : (t262 != 1) = true := bne_iff_ne.mpr c53
                                obtain rfl := Option.some.inj H
                                go_wp2
                                repeat (go_quiet (fail); try go_wp2)
                                go_ret
                                exact ⟨by first | rfl | (simp [errW_none, errW_some] <;> rfl) | (simp [*, errW_none, errW_some] <;> rfl), by repeat with_reducible first | exact HB.out | apply below_alloc | apply pw_below_drewN | apply below_drew1⟩
                            · replace c52 := Bool.eq_false_iff.mpr c52
                              subst c52
                              have H1 : ((ferruleref13_Many.f kj44 l0 a1 a2).bind fun t281 => (if t262 = 0 then (if t268 = 0 then (ferrulelaw15_tells.j3 kj44 a1 a2 t261 t265 t266 t267 t281 ((t261.length : Int) != (t281.length : Int))) else (ferrulelaw15_tells.j3 kj44 a1 a2 t261 t265 t266 t267 t281 true)) else (ferrulelaw15_tells.j3 kj44 a1 a2 t261 t265 t266 t267 t281 true))) = some r := by rw [if_neg (show ¬ (false = true) by decide)] at H; exact H
                              clear H
                              have H := H1
                              clear H1
                              replace H := Option.bind_eq_some_iff.mp H
                              obtain ⟨t281, A620, H⟩ := H
                              replace H : (if t262 = 0 then (if t268 = 0 then (ferrulelaw15_tells.j3 kj44 a1 a2 t261 t265 t266 t267 t281 ((t261.length : Int) != (t281.length : Int))) else (ferrulelaw15_tells.j3 kj44 a1 a2 t261 t265 t266 t267 t281 true)) else (ferrulelaw15_tells.j3 kj44 a1 a2 t261 t265 t266 t267 t281 true)) = some r := H
                              have A62 := Aside0.mk A620
                              clear A620
                              have HC63 := Aside0.mk H
                              clear H
                              go_upto_region 16 with (first | (go_at_call 25; (with_reducible refine (ferruleref13_Many.calls kj44 _ _ l0 a1 a2 t281 _ ?side1 ?side2 A62.out).mono ?_); (case side1 => repeat (first | exact (Kd.C_below HR0.out HB.out) | (with_reducible refine Kd.C_alloc ?_ _) | (with_reducible refine Kd.C_drewN ?_ _) | (with_reducible refine Kd.C_drew ?_))); (case side2 => exact HC0.out); rintro e w64 ⟨v282, rfl, ho0, hb⟩; have n0_ := Aside0.mk (Kd.R_elder' (by (with_reducible repeat (first | apply Kd.R_alloc | apply Kd.R_drewN | apply Kd.R_drew)); exact HO_12.out) (Kd.R_base ho0) hb); have n1_ := Aside0.mk (Kd.R_lower (Kd.R_new' ho0 (Kd.R_lt (by (with_reducible repeat (first | apply Kd.R_alloc | apply Kd.R_drewN | apply Kd.R_drew)); exact HO_12.out))) (below_size (by repeat with_reducible first | exact HB.out | apply below_alloc | apply pw_below_drewN | apply below_drew1))); have n2_ := Aside0.mk (Kd.C_below (by repeat (first | (with_reducible exact HR260.out) | (with_reducible refine Kd.C_alloc ?_ _) | (with_reducible refine Kd.C_drewN ?_ _) | (with_reducible refine Kd.C_drew ?_) | exact HR260.out)) hb); have n3_ := Aside0.mk (below_step (by repeat with_reducible first | exact HB.out | apply below_alloc | apply pw_below_drewN | apply below_drew1) hb); clear HO_12; clear HR260; clear HB; have HO_12 := n0_; have HO283 := n1_; have HR260 := n2_; have HB := n3_; clear n0_ n1_ n2_ n3_; (try clear hb); (try clear hb2); (try clear hk); (try clear hi); (try clear ho0)))
                              repeat (go_quiet (first | (go_at_call 25; (with_reducible refine (ferruleref13_Many.calls kj44 _ _ l0 a1 a2 t281 _ ?side1 ?side2 A62.out).mono ?_); (case side1 => repeat (first | exact (Kd.C_below HR0.out HB.out) | (with_reducible refine Kd.C_alloc ?_ _) | (with_reducible refine Kd.C_drewN ?_ _) | (with_reducible refine Kd.C_drew ?_))); (case side2 => exact HC0.out); rintro e w64 ⟨v282, rfl, ho0, hb⟩; have n0_ := Aside0.mk (Kd.R_elder' (by (with_reducible repeat (first | apply Kd.R_alloc | apply Kd.R_drewN | apply Kd.R_drew)); exact HO_12.out) (Kd.R_base ho0) hb); have n1_ := Aside0.mk (Kd.R_lower (Kd.R_new' ho0 (Kd.R_lt (by (with_reducible repeat (first | apply Kd.R_alloc | apply Kd.R_drewN | apply Kd.R_drew)); exact HO_12.out))) (below_size (by repeat with_reducible first | exact HB.out | apply below_alloc | apply pw_below_drewN | apply below_drew1))); have n2_ := Aside0.mk (Kd.C_below (by repeat (first | (with_reducible exact HR260.out) | (with_reducible refine Kd.C_alloc ?_ _) | (with_reducible refine Kd.C_drewN ?_ _) | (with_reducible refine Kd.C_drew ?_) | exact HR260.out)) hb); have n3_ := Aside0.mk (below_step (by repeat with_reducible first | exact HB.out | apply below_alloc | apply pw_below_drewN | apply below_drew1) hb); clear HO_12; clear HR260; clear HB; have HO_12 := n0_; have HO283 := n1_; have HR260 := n2_; have HB := n3_; clear n0_ n1_ n2_ n3_; (try clear hb); (try clear hb2); (try clear hk); (try clear hi); (try clear ho0))); go_upto_region 16 with (first | (go_at_call 25; (with_reducible refine (ferruleref13_Many.calls kj44 _ _ l0 a1 a2 t281 _ ?side1 ?side2 A62.out).mono ?_); (case side1 => repeat (first | exact (Kd.C_below HR0.out HB.out) | (with_reducible refine Kd.C_alloc ?_ _) | (with_reducible refine Kd.C_drewN ?_ _) | (with_reducible refine Kd.C_drew ?_))); (case side2 => exact HC0.out); rintro e w64 ⟨v282, rfl, ho0, hb⟩; have n0_ := Aside0.mk (Kd.R_elder' (by (with_reducible repeat (first | apply Kd.R_alloc | apply Kd.R_drewN | apply Kd.R_drew)); exact HO_12.out) (Kd.R_base ho0) hb); have n1_ := Aside0.mk (Kd.R_lower (Kd.R_new' ho0 (Kd.R_lt (by (with_reducible repeat (first | apply Kd.R_alloc | apply Kd.R_drewN | apply Kd.R_drew)); exact HO_12.out))) (below_size (by repeat with_reducible first | exact HB.out | apply below_alloc | apply pw_below_drewN | apply below_drew1))); have n2_ := Aside0.mk (Kd.C_below (by repeat (first | (with_reducible exact HR260.out) | (with_reducible refine Kd.C_alloc ?_ _) | (with_reducible refine Kd.C_drewN ?_ _) | (with_reducible refine Kd.C_drew ?_) | exact HR260.out)) hb); have n3_ := Aside0.mk (below_step (by repeat with_reducible first | exact HB.out | apply below_alloc | apply pw_below_drewN | apply below_drew1) hb); clear HO_12; clear HR260; clear HB; have HO_12 := n0_; have HO283 := n1_; have HR260 := n2_; have HB := n3_; clear n0_ n1_ n2_ n3_; (try clear hb); (try clear hb2); (try clear hk); (try clear hi); (try clear ho0))))
                              (try simp only [Act.put, List.setIfInBounds_toArray, List.set_cons_zero, List.set_cons_succ])
                              go_cut [153] (fun v153 wc => ∃ (kq : Nat) (x153_62 : Bool), v153 = .bool x153_62 ∧ Aside0 (ferrulelaw15_tells.j3 kq a1 a2 t261 t265 t266 t267 t281 x153_62 = some r) ∧ Aside0 (kq ≤ kj44) ∧ Aside0 (Kd.R (Kd.int .i64) 3 wc w.heap.size (fun k_ => some k_ ≠ (v282 : Value).ownBlock) v263 t261) ∧ Aside0 (Kd.R (Kd.int .i64) 3 wc w.heap.size (fun k_ => some k_ ≠ (v263 : Value).ownBlock) v282 t281) ∧ Aside0 (Kd.C k39 wc Ao22 y257.length y257) ∧ Aside0 (Below w.heap.size w wc))
                              case first =>
                                as_aux_lemma =>
                                  have H := HC63.out
                                  clear HC63
                                  by_cases c65 : t262 = 0
                                  · rw [if_pos c65] at H
                                    have c65b0 : (t262 == 0) = true := beq_iff_eq.mpr c65
                                    have c65b1 : (t262 != 0) = false := bne_eq_false_iff_eq.mpr c65
                                    clear c65
                                    (first | rw [c65b0] | (simp only [i64_w, i32_w]; rw [c65b0]) | skip)
                                    by_cases c66 : t268 = 0
                                    · rw [if_pos c66] at H
                                      have c66b0 : (t268 == 0) = true := beq_iff_eq.mpr c66
                                      have c66b1 : (t268 != 0) = false := bne_eq_false_iff_eq.mpr c66
                                      clear c66
                                      have H' := Aside0.mk H
                                      clear H
                                      obtain ⟨Ao67, co67, eo67⟩ := Kd.R_slice HO_12.out
                                      subst eo67
                                      obtain ⟨Ao68, co68, eo68⟩ := Kd.R_slice HO283.out
                                      subst eo68
                                      go_wp2
                                      repeat (go_quiet (fail); try go_wp2)
                                      go_meet
                                      case rel => exact ⟨_, (((t261.length : Int) != (t281.length : Int))), (by first | rfl | (simp; done) | (simp [*]; done)), H', ⟨by have := HJ15.out; have := HJ28.out; have := HJ44.out; first | omega | exact Nat.le_refl _⟩, ⟨by (with_reducible repeat (first | apply Kd.R_alloc | apply Kd.R_drewN | apply Kd.R_drew)); exact Kd.R_mono HO_12.out (fun _ hk => hk.2)⟩, ⟨by (with_reducible repeat (first | apply Kd.R_alloc | apply Kd.R_drewN | apply Kd.R_drew)); exact Kd.R_mono HO283.out (fun _ hk => hk.2)⟩, ⟨by repeat (first | (with_reducible exact HR260.out) | (with_reducible refine Kd.C_alloc ?_ _) | (with_reducible refine Kd.C_drewN ?_ _) | (with_reducible refine Kd.C_drew ?_) | exact HR260.out)⟩, ⟨by repeat with_reducible first | exact HB.out | apply below_alloc | apply pw_below_drewN | apply below_drew1⟩⟩
                                    · rw [if_neg c66] at H
                                      have c66b0 : (t268 == 0) = false := beq_eq_false_iff_ne.mpr c66
                                      have c66b1 : (t268 != 0) = true := bne_iff_ne.mpr c66
                                      have H' := Aside0.mk H
                                      clear H
                                      go_wp2
                                      repeat (go_quiet (fail); try go_wp2)
                                      go_meet
                                      case rel => exact ⟨_, (true), (by first | rfl | (simp; done) | (simp [*]; done)), H', ⟨by have := HJ15.out; have := HJ28.out; have := HJ44.out; first | omega | exact Nat.le_refl _⟩, ⟨by (with_reducible repeat (first | apply Kd.R_alloc | apply Kd.R_drewN | apply Kd.R_drew)); exact Kd.R_mono HO_12.out (fun _ hk => hk.2)⟩, ⟨by (with_reducible repeat (first | apply Kd.R_alloc | apply Kd.R_drewN | apply Kd.R_drew)); exact Kd.R_mono HO283.out (fun _ hk => hk.2)⟩, ⟨by repeat (first | (with_reducible exact HR260.out) | (with_reducible refine Kd.C_alloc ?_ _) | (with_reducible refine Kd.C_drewN ?_ _) | (with_reducible refine Kd.C_drew ?_) | exact HR260.out)⟩, ⟨by repeat with_reducible first | exact HB.out | apply below_alloc | apply pw_below_drewN | apply below_drew1⟩⟩
                                  · rw [if_neg c65] at H
                                    have c65b0 : (t262 == 0) = false := beq_eq_false_iff_ne.mpr c65
                                    have c65b1 : (t262 != 0) = true := bne_iff_ne.mpr c65
                                    (first | rw [c65b0] | (simp only [i64_w, i32_w]; rw [c65b0]) | skip)
                                    have H' := Aside0.mk H
                                    clear H
                                    go_wp2
                                    repeat (go_quiet (fail); try go_wp2)
                                    go_meet
                                    case rel => exact ⟨_, (true), (by first | rfl | (simp; done) | (simp [*]; done)), H', ⟨by have := HJ15.out; have := HJ28.out; have := HJ44.out; first | omega | exact Nat.le_refl _⟩, ⟨by (with_reducible repeat (first | apply Kd.R_alloc | apply Kd.R_drewN | apply Kd.R_drew)); exact Kd.R_mono HO_12.out (fun _ hk => hk.2)⟩, ⟨by (with_reducible repeat (first | apply Kd.R_alloc | apply Kd.R_drewN | apply Kd.R_drew)); exact Kd.R_mono HO283.out (fun _ hk => hk.2)⟩, ⟨by repeat (first | (with_reducible exact HR260.out) | (with_reducible refine Kd.C_alloc ?_ _) | (with_reducible refine Kd.C_drewN ?_ _) | (with_reducible refine Kd.C_drew ?_) | exact HR260.out)⟩, ⟨by repeat with_reducible first | exact HB.out | apply below_alloc | apply pw_below_drewN | apply below_drew1⟩⟩
                              case rest =>
                                as_aux_lemma =>
                                  clear HC63
                                  try clear c1
                                  try clear c2
                                  try clear p2
                                  try clear q2
                                  try clear c3
                                  try clear c4
                                  try clear c5
                                  try clear c6
                                  try clear c7
                                  try clear c8
                                  try clear c8b0
                                  try clear c8b1
                                  try clear c9
                                  try clear c9b0
                                  try clear c9b1
                                  try clear c12
                                  try clear c14
                                  try clear q21
                                  try clear c27
                                  try clear c30
                                  try clear c31
                                  try clear c31b0
                                  try clear c31b1
                                  try clear c32
                                  try clear c32b0
                                  try clear c32b1
                                  try clear c32b2
                                  try clear c35
                                  try clear c35b0
                                  try clear c35b1
                                  try clear c38
                                  try clear c46
                                  try clear c47
                                  try clear c47b0
                                  try clear c48
                                  try clear c48b0
                                  try clear c49
                                  try clear c49b0
                                  try clear c50
                                  try clear c50b0
                                  try clear c52
                                  try clear c53
                                  try clear c53b0
                                  try clear c53b1
                                  try clear c54
                                  try clear c54b0
                                  try clear c54b1
                                  try clear c55
                                  try clear c55b0
                                  try clear c55b1
                                  try clear c55b2
                                  try clear c56
                                  try clear c56b0
                                  try clear c56b1
                                  try clear c57
                                  try clear c57b0
                                  try clear c57b1
                                  try clear c65
                                  try clear c65b0
                                  try clear c65b1
                                  try clear c66
                                  try clear c66b0
                                  try clear c66b1
                                  try clear p2
                                  try clear q2
                                  try clear q21
                                  obtain ⟨kq, x153_62, rfl, HA, HJ62, HO_12, HO_21, HR260, HB⟩ := hcut
                                  cases kq with
                                  | zero => exact absurd HA.out (by simp [ferrulelaw15_tells.j3])
                                  | succ kj62 =>
                                    have H := HA.out
                                    clear HA
                                    simp only [ferrulelaw15_tells.j3] at H
                                    by_cases c69 : x153_62 = true
                                    · subst c69
                                      have H1 : (some false) = some r := by rw [if_pos rfl] at H; exact H
                                      clear H
                                      have H := H1
                                      clear H1
                                      obtain rfl := Option.some.inj H
                                      go_wp2
                                      repeat (go_quiet (fail); try go_wp2)
                                      go_ret
                                      exact ⟨by first | rfl | (simp [errW_none, errW_some] <;> rfl) | (simp [*, errW_none, errW_some] <;> rfl), by repeat with_reducible first | exact HB.out | apply below_alloc | apply pw_below_drewN | apply below_drew1⟩
                                    · replace c69 := Bool.eq_false_iff.mpr c69
                                      subst c69
                                      have H1 : (ferrulelaw15_tells.l0 kj62 a1 a2 t261 t265 t266 t267 t281 0 0) = some r := by rw [if_neg (show ¬ (false = true) by decide)] at H; exact H
                                      clear H
                                      have H := H1
                                      clear H1
                                      have H' := Aside0.mk H
                                      clear H
                                      go_wp2
                                      repeat (go_quiet (fail); try go_wp2)
                                      go_loopg [22, 23] kj62 (fun kq v22 v23 w' => ∃ (x22_5 : Int) (x23_5 : Int), v22 = .int .i64 x22_5 ∧ v23 = .int .i64 x23_5 ∧ Aside0 (ferrulelaw15_tells.l0 kq a1 a2 t261 t265 t266 t267 t281 x22_5 x23_5 = some r) ∧ Aside0 (kq ≤ kj62) ∧ Aside0 (Kd.R (Kd.int .i64) 3 w' w.heap.size (fun k_ => some k_ ≠ (v282 : Value).ownBlock) v263 t261) ∧ Aside0 (Kd.R (Kd.int .i64) 3 w' w.heap.size (fun k_ => some k_ ≠ (v263 : Value).ownBlock) v282 t281) ∧ Aside0 (Kd.C k39 w' Ao22 y257.length y257) ∧ Aside0 (Below w.heap.size w w'))
                                      case atStart => exact ⟨(0), (0), (by first | rfl | (simp; done) | (simp [*]; done)), (by first | rfl | (simp; done) | (simp [*]; done)), H', ⟨Nat.le_refl _⟩, ⟨by (with_reducible repeat (first | apply Kd.R_alloc | apply Kd.R_drewN | apply Kd.R_drew)); exact HO_12.out⟩, ⟨by (with_reducible repeat (first | apply Kd.R_alloc | apply Kd.R_drewN | apply Kd.R_drew)); exact HO_21.out⟩, ⟨by repeat (first | (with_reducible exact HR260.out) | (with_reducible refine Kd.C_alloc ?_ _) | (with_reducible refine Kd.C_drewN ?_ _) | (with_reducible refine Kd.C_drew ?_) | exact HR260.out)⟩, ⟨by repeat with_reducible first | exact HB.out | apply below_alloc | apply pw_below_drewN | apply below_drew1⟩⟩
                                      case round =>
                                        as_aux_lemma =>
                                          clear H'
                                          try clear c1
                                          try clear c2
                                          try clear p2
                                          try clear q2
                                          try clear c3
                                          try clear c4
                                          try clear c5
                                          try clear c6
                                          try clear c7
                                          try clear c8
                                          try clear c8b0
                                          try clear c8b1
                                          try clear c9
                                          try clear c9b0
                                          try clear c9b1
                                          try clear c12
                                          try clear c14
                                          try clear q21
                                          try clear c27
                                          try clear c30
                                          try clear c31
                                          try clear c31b0
                                          try clear c31b1
                                          try clear c32
                                          try clear c32b0
                                          try clear c32b1
                                          try clear c32b2
                                          try clear c35
                                          try clear c35b0
                                          try clear c35b1
                                          try clear c38
                                          try clear c46
                                          try clear c47
                                          try clear c47b0
                                          try clear c48
                                          try clear c48b0
                                          try clear c49
                                          try clear c49b0
                                          try clear c50
                                          try clear c50b0
                                          try clear c52
                                          try clear c53
                                          try clear c53b0
                                          try clear c53b1
                                          try clear c54
                                          try clear c54b0
                                          try clear c54b1
                                          try clear c55
                                          try clear c55b0
                                          try clear c55b1
                                          try clear c55b2
                                          try clear c56
                                          try clear c56b0
                                          try clear c56b1
                                          try clear c57
                                          try clear c57b0
                                          try clear c57b1
                                          try clear c65
                                          try clear c65b0
                                          try clear c65b1
                                          try clear c66
                                          try clear c66b0
                                          try clear c66b1
                                          try clear c69
                                          try clear p2
                                          try clear q2
                                          try clear q21
                                          obtain ⟨x22_5, x23_5, rfl, rfl, HA, HK5, HO_12, HO_21, HR260, HB⟩ := hrel
                                          cases gk with
                                          | zero => exact absurd HA.out (by simp [ferrulelaw15_tells.l0])
                                          | succ k5 =>
                                            have H := HA.out
                                            clear HA
                                            simp only [ferrulelaw15_tells.l0] at H
                                            by_cases c70 : x23_5 < (t281.length : Int)
                                            · rw [if_pos c70] at H
                                              have c70b0 : decide (x23_5 < (t281.length : Int)) = true := decide_eq_true c70
                                              clear c70
                                              by_cases c71 : 0 ≤ x23_5
                                              · rw [if_pos c71] at H
                                                have c71b0 : decide (0 ≤ x23_5) = true := decide_eq_true c71
                                                clear c71
                                                by_cases c72 : x23_5 < (t261.length : Int)
                                                · rw [if_pos c72] at H
                                                  have c72b0 : decide (x23_5 < (t261.length : Int)) = true := decide_eq_true c72
                                                  clear c72
                                                  by_cases c73 : (rd t261 x23_5) = (rd t281 x23_5)
                                                  · rw [if_pos c73] at H
                                                    have c73b0 : ((rd t261 x23_5) == (rd t281 x23_5)) = true := beq_iff_eq.mpr c73
                                                    have c73b1 : ((rd t261 x23_5) != (rd t281 x23_5)) = false := bne_eq_false_iff_eq.mpr c73
                                                    clear c73
                                                    by_cases c74 : 0 ≤ x22_5
                                                    · rw [if_pos c74] at H
                                                      have c74b0 : decide (0 ≤ x22_5) = true := decide_eq_true c74
                                                      clear c74
                                                      by_cases c75 : x22_5 < (t281.length : Int)
                                                      · rw [if_pos c75] at H
                                                        have c75b0 : decide (x22_5 < (t281.length : Int)) = true := decide_eq_true c75
                                                        clear c75
                                                        by_cases c76 : (rd t281 x23_5) > (rd t281 x22_5)
                                                        · rw [if_pos c76] at H
                                                          have c76b0 : decide ((rd t281 x22_5) < (rd t281 x23_5)) = true := decide_eq_true c76
                                                          clear c76
                                                          have H' := Aside0.mk H
                                                          clear H
                                                          obtain ⟨Ao77, co77, eo77⟩ := Kd.R_slice HO_21.out
                                                          subst eo77
                                                          obtain ⟨Ao78, co78, eo78⟩ := Kd.R_slice HO_12.out
                                                          subst eo78
                                                          have p286 : 0 ≤ (x23_5 : Int) := of_decide_eq_true (by with_reducible assumption)
                                                          have q286 : x23_5 < (t261.length : Int) := of_decide_eq_true (by with_reducible assumption)
                                                          obtain ⟨ad286, e286, hx286_0⟩ := Kd.at_int (Kd.R_reads' HO_12.out).2.2 x23_5 p286 q286
                                                          cases e286
                                                          replace p286 := eq_true p286
                                                          replace q286 := eq_true q286
                                                          have p287 : 0 ≤ (x23_5 : Int) := of_decide_eq_true (by with_reducible assumption)
                                                          have q287 : x23_5 < (t281.length : Int) := of_decide_eq_true (by with_reducible assumption)
                                                          obtain ⟨ad287, e287, hx287_0⟩ := Kd.at_int (Kd.R_reads' HO_21.out).2.2 x23_5 p287 q287
                                                          cases e287
                                                          replace p287 := eq_true p287
                                                          replace q287 := eq_true q287
                                                          have p288 : 0 ≤ (x23_5 : Int) := of_decide_eq_true (by with_reducible assumption)
                                                          have q288 : x23_5 < (t281.length : Int) := of_decide_eq_true (by with_reducible assumption)
                                                          obtain ⟨ad288, e288, hx288_0⟩ := Kd.at_int (Kd.R_reads' HO_21.out).2.2 x23_5 p288 q288
                                                          obtain rfl : ad287 = ad288 := (by injection e288)
                                                          replace p288 := eq_true p288
                                                          replace q288 := eq_true q288
                                                          have p289 : 0 ≤ (x22_5 : Int) := of_decide_eq_true (by with_reducible assumption)
                                                          have q289 : x22_5 < (t281.length : Int) := of_decide_eq_true (by with_reducible assumption)
                                                          obtain ⟨ad289, e289, hx289_0⟩ := Kd.at_int (Kd.R_reads' HO_21.out).2.2 x22_5 p289 q289
                                                          obtain rfl : ad287 = ad289 := (by injection e289)
                                                          replace p289 := eq_true p289
                                                          replace q289 := eq_true q289
                                                          go_wp2
                                                          repeat (go_quiet (fail); try go_wp2)
                                                          go_roundg k5
                                                          case measure => have := HJ15.out; have := HJ28.out; have := HJ44.out; have := HJ62.out; have := HK5.out; omega
                                                          case rel => exact ⟨(x23_5), (wrap64 (x23_5 + 1)), (by first | rfl | (simp; done) | (simp [*]; done)), (by first | rfl | (simp; done) | (simp [*]; done)), H', ⟨by have := HJ15.out; have := HJ28.out; have := HJ44.out; have := HJ62.out; have := HK5.out; omega⟩, ⟨by (with_reducible repeat (first | apply Kd.R_alloc | apply Kd.R_drewN | apply Kd.R_drew)); exact HO_12.out⟩, ⟨by (with_reducible repeat (first | apply Kd.R_alloc | apply Kd.R_drewN | apply Kd.R_drew)); exact HO_21.out⟩, ⟨by repeat (first | (with_reducible exact HR260.out) | (with_reducible refine Kd.C_alloc ?_ _) | (with_reducible refine Kd.C_drewN ?_ _) | (with_reducible refine Kd.C_drew ?_) | exact HR260.out)⟩, ⟨by repeat with_reducible first | exact HB.out | apply below_alloc | apply pw_below_drewN | apply below_drew1⟩⟩
                                                        · rw [if_neg c76] at H
                                                          have c76b0 : decide ((rd t281 x22_5) < (rd t281 x23_5)) = false := decide_eq_false c76
                                                          clear c76
                                                          have H' := Aside0.mk H
                                                          clear H
                                                          obtain ⟨Ao79, co79, eo79⟩ := Kd.R_slice HO_21.out
                                                          subst eo79
                                                          obtain ⟨Ao80, co80, eo80⟩ := Kd.R_slice HO_12.out
                                                          subst eo80
                                                          have p286 : 0 ≤ (x23_5 : Int) := of_decide_eq_true (by with_reducible assumption)
                                                          have q286 : x23_5 < (t261.length : Int) := of_decide_eq_true (by with_reducible assumption)
                                                          obtain ⟨ad286, e286, hx286_0⟩ := Kd.at_int (Kd.R_reads' HO_12.out).2.2 x23_5 p286 q286
                                                          cases e286
                                                          replace p286 := eq_true p286
                                                          replace q286 := eq_true q286
                                                          have p287 : 0 ≤ (x23_5 : Int) := of_decide_eq_true (by with_reducible assumption)
                                                          have q287 : x23_5 < (t281.length : Int) := of_decide_eq_true (by with_reducible assumption)
                                                          obtain ⟨ad287, e287, hx287_0⟩ := Kd.at_int (Kd.R_reads' HO_21.out).2.2 x23_5 p287 q287
                                                          cases e287
                                                          replace p287 := eq_true p287
                                                          replace q287 := eq_true q287
                                                          have p288 : 0 ≤ (x23_5 : Int) := of_decide_eq_true (by with_reducible assumption)
                                                          have q288 : x23_5 < (t281.length : Int) := of_decide_eq_true (by with_reducible assumption)
                                                          obtain ⟨ad288, e288, hx288_0⟩ := Kd.at_int (Kd.R_reads' HO_21.out).2.2 x23_5 p288 q288
                                                          obtain rfl : ad287 = ad288 := (by injection e288)
                                                          replace p288 := eq_true p288
                                                          replace q288 := eq_true q288
                                                          have p289 : 0 ≤ (x22_5 : Int) := of_decide_eq_true (by with_reducible assumption)
                                                          have q289 : x22_5 < (t281.length : Int) := of_decide_eq_true (by with_reducible assumption)
                                                          obtain ⟨ad289, e289, hx289_0⟩ := Kd.at_int (Kd.R_reads' HO_21.out).2.2 x22_5 p289 q289
                                                          obtain rfl : ad287 = ad289 := (by injection e289)
                                                          replace p289 := eq_true p289
                                                          replace q289 := eq_true q289
                                                          go_wp2
                                                          repeat (go_quiet (fail); try go_wp2)
                                                          go_roundg k5
                                                          case measure => have := HJ15.out; have := HJ28.out; have := HJ44.out; have := HJ62.out; have := HK5.out; omega
                                                          case rel => exact ⟨(x22_5), (wrap64 (x23_5 + 1)), (by first | rfl | (simp; done) | (simp [*]; done)), (by first | rfl | (simp; done) | (simp [*]; done)), H', ⟨by have := HJ15.out; have := HJ28.out; have := HJ44.out; have := HJ62.out; have := HK5.out; omega⟩, ⟨by (with_reducible repeat (first | apply Kd.R_alloc | apply Kd.R_drewN | apply Kd.R_drew)); exact HO_12.out⟩, ⟨by (with_reducible repeat (first | apply Kd.R_alloc | apply Kd.R_drewN | apply Kd.R_drew)); exact HO_21.out⟩, ⟨by repeat (first | (with_reducible exact HR260.out) | (with_reducible refine Kd.C_alloc ?_ _) | (with_reducible refine Kd.C_drewN ?_ _) | (with_reducible refine Kd.C_drew ?_) | exact HR260.out)⟩, ⟨by repeat with_reducible first | exact HB.out | apply below_alloc | apply pw_below_drewN | apply below_drew1⟩⟩
                                                      · rw [if_neg c75] at H
                                                        exact absurd H (by simp)
                                                    · rw [if_neg c74] at H
                                                      exact absurd H (by simp)
                                                  · rw [if_neg c73] at H
                                                    have c73b0 : ((rd t261 x23_5) == (rd t281 x23_5)) = false := beq_eq_false_iff_ne.mpr c73
                                                    have c73b1 : ((rd t261 x23_5) != (rd t281 x23_5)) = true := bne_iff_ne.mpr c73
                                                    obtain rfl := Option.some.inj H
                                                    obtain ⟨Ao81, co81, eo81⟩ := Kd.R_slice HO_21.out
                                                    subst eo81
                                                    obtain ⟨Ao82, co82, eo82⟩ := Kd.R_slice HO_12.out
                                                    subst eo82
                                                    have p286 : 0 ≤ (x23_5 : Int) := of_decide_eq_true (by with_reducible assumption)
                                                    have q286 : x23_5 < (t261.length : Int) := of_decide_eq_true (by with_reducible assumption)
                                                    obtain ⟨ad286, e286, hx286_0⟩ := Kd.at_int (Kd.R_reads' HO_12.out).2.2 x23_5 p286 q286
                                                    cases e286
                                                    replace p286 := eq_true p286
                                                    replace q286 := eq_true q286
                                                    have p287 : 0 ≤ (x23_5 : Int) := of_decide_eq_true (by with_reducible assumption)
                                                    have q287 : x23_5 < (t281.length : Int) := of_decide_eq_true (by with_reducible assumption)
                                                    obtain ⟨ad287, e287, hx287_0⟩ := Kd.at_int (Kd.R_reads' HO_21.out).2.2 x23_5 p287 q287
                                                    cases e287
                                                    replace p287 := eq_true p287
                                                    replace q287 := eq_true q287
                                                    go_wp2
                                                    repeat (go_quiet (fail); try go_wp2)
                                                    go_ret
                                                    exact ⟨by first | rfl | (simp [errW_none, errW_some] <;> rfl) | (simp [*, errW_none, errW_some] <;> rfl), by repeat with_reducible first | exact HB.out | apply below_alloc | apply pw_below_drewN | apply below_drew1⟩
                                                · rw [if_neg c72] at H
                                                  exact absurd H (by simp)
                                              · rw [if_neg c71] at H
                                                exact absurd H (by simp)
                                            · rw [if_neg c70] at H
                                              have c70b0 : decide (x23_5 < (t281.length : Int)) = false := decide_eq_false c70
                                              clear c70
                                              by_cases c83 : (wrap64 (a1 - (wrap64 (x22_5 * a2)))) < a2
                                              · rw [if_pos c83] at H
                                                have c83b0 : decide ((wrap64 (a1 - (wrap64 (x22_5 * a2)))) < a2) = true := decide_eq_true c83
                                                clear c83
                                                by_cases c84 : t265 = (wrap64 (x22_5 * a2))
                                                · rw [if_pos c84] at H
                                                  have c84b0 : (t265 == (wrap64 (x22_5 * a2))) = true := beq_iff_eq.mpr c84
                                                  have c84b1 : (t265 != (wrap64 (x22_5 * a2))) = false := bne_eq_false_iff_eq.mpr c84
                                                  clear c84
                                                  by_cases c85 : t266 = (wrap64 (a1 - (wrap64 (x22_5 * a2))))
                                                  · rw [if_pos c85] at H
                                                    have c85b0 : (t266 == (wrap64 (a1 - (wrap64 (x22_5 * a2))))) = true := beq_iff_eq.mpr c85
                                                    have c85b1 : (t266 != (wrap64 (a1 - (wrap64 (x22_5 * a2))))) = false := bne_eq_false_iff_eq.mpr c85
                                                    clear c85
                                                    by_cases c86 : 0 ≤ x22_5
                                                    · rw [if_pos c86] at H
                                                      have c86b0 : decide (0 ≤ x22_5) = true := decide_eq_true c86
                                                      clear c86
                                                      by_cases c87 : x22_5 < (t281.length : Int)
                                                      · rw [if_pos c87] at H
                                                        have c87b0 : decide (x22_5 < (t281.length : Int)) = true := decide_eq_true c87
                                                        clear c87
                                                        obtain rfl := Option.some.inj H
                                                        obtain ⟨Ao88, co88, eo88⟩ := Kd.R_slice HO_21.out
                                                        subst eo88
                                                        have p284 : 0 ≤ (x22_5 : Int) := of_decide_eq_true (by with_reducible assumption)
                                                        have q284 : x22_5 < (t281.length : Int) := of_decide_eq_true (by with_reducible assumption)
                                                        obtain ⟨ad284, e284, hx284_0⟩ := Kd.at_int (Kd.R_reads' HO_21.out).2.2 x22_5 p284 q284
                                                        cases e284
                                                        replace p284 := eq_true p284
                                                        replace q284 := eq_true q284
                                                        go_wp2
                                                        repeat (go_quiet (fail); try go_wp2)
                                                        go_ret
                                                        exact ⟨by first | rfl | (simp [errW_none, errW_some] <;> rfl) | (simp [*, errW_none, errW_some] <;> rfl), by repeat with_reducible first | exact HB.out | apply below_alloc | apply pw_below_drewN | apply below_drew1⟩
                                                      · rw [if_neg c87] at H
                                                        exact absurd H (by simp)
                                                    · rw [if_neg c86] at H
                                                      exact absurd H (by simp)
                                                  · rw [if_neg c85] at H
                                                    have c85b0 : (t266 == (wrap64 (a1 - (wrap64 (x22_5 * a2))))) = false := beq_eq_false_iff_ne.mpr c85
                                                    have c85b1 : (t266 != (wrap64 (a1 - (wrap64 (x22_5 * a2))))) = true := bne_iff_ne.mpr c85
                                                    obtain rfl := Option.some.inj H
                                                    obtain ⟨Ao89, co89, eo89⟩ := Kd.R_slice HO_21.out
                                                    subst eo89
                                                    go_wp2
                                                    repeat (go_quiet (fail); try go_wp2)
                                                    go_ret
                                                    exact ⟨by first | rfl | (simp [errW_none, errW_some] <;> rfl) | (simp [*, errW_none, errW_some] <;> rfl), by repeat with_reducible first | exact HB.out | apply below_alloc | apply pw_below_drewN | apply below_drew1⟩
                                                · rw [if_neg c84] at H
                                                  have c84b0 : (t265 == (wrap64 (x22_5 * a2))) = false := beq_eq_false_iff_ne.mpr c84
                                                  have c84b1 : (t265 != (wrap64 (x22_5 * a2))) = true := bne_iff_ne.mpr c84
                                                  obtain rfl := Option.some.inj H
                                                  obtain ⟨Ao90, co90, eo90⟩ := Kd.R_slice HO_21.out
                                                  subst eo90
                                                  go_wp2
                                                  repeat (go_quiet (fail); try go_wp2)
                                                  go_ret
                                                  exact ⟨by first | rfl | (simp [errW_none, errW_some] <;> rfl) | (simp [*, errW_none, errW_some] <;> rfl), by repeat with_reducible first | exact HB.out | apply below_alloc | apply pw_below_drewN | apply below_drew1⟩
                                              · rw [if_neg c83] at H
                                                have c83b0 : decide ((wrap64 (a1 - (wrap64 (x22_5 * a2)))) < a2) = false := decide_eq_false c83
                                                clear c83
                                                by_cases c91 : t265 = (wrap64 (x22_5 * a2))
                                                · rw [if_pos c91] at H
                                                  have c91b0 : (t265 == (wrap64 (x22_5 * a2))) = true := beq_iff_eq.mpr c91
                                                  have c91b1 : (t265 != (wrap64 (x22_5 * a2))) = false := bne_eq_false_iff_eq.mpr c91
                                                  clear c91
                                                  by_cases c92 : t266 = a2
                                                  · rw [if_pos c92] at H
                                                    have c92b0 : (t266 == a2) = true := beq_iff_eq.mpr c92
                                                    have c92b1 : (t266 != a2) = false := bne_eq_false_iff_eq.mpr c92
                                                    clear c92
                                                    by_cases c93 : 0 ≤ x22_5
                                                    · rw [if_pos c93] at H
                                                      have c93b0 : decide (0 ≤ x22_5) = true := decide_eq_true c93
                                                      clear c93
                                                      by_cases c94 : x22_5 < (t281.length : Int)
                                                      · rw [if_pos c94] at H
                                                        have c94b0 : decide (x22_5 < (t281.length : Int)) = true := decide_eq_true c94
                                                        clear c94
                                                        obtain rfl := Option.some.inj H
                                                        obtain ⟨Ao95, co95, eo95⟩ := Kd.R_slice HO_21.out
                                                        subst eo95
                                                        have p285 : 0 ≤ (x22_5 : Int) := of_decide_eq_true (by with_reducible assumption)
                                                        have q285 : x22_5 < (t281.length : Int) := of_decide_eq_true (by with_reducible assumption)
                                                        obtain ⟨ad285, e285, hx285_0⟩ := Kd.at_int (Kd.R_reads' HO_21.out).2.2 x22_5 p285 q285
                                                        cases e285
                                                        replace p285 := eq_true p285
                                                        replace q285 := eq_true q285
                                                        go_wp2
                                                        repeat (go_quiet (fail); try go_wp2)
                                                        go_ret
                                                        exact ⟨by first | rfl | (simp [errW_none, errW_some] <;> rfl) | (simp [*, errW_none, errW_some] <;> rfl), by repeat with_reducible first | exact HB.out | apply below_alloc | apply pw_below_drewN | apply below_drew1⟩
                                                      · rw [if_neg c94] at H
                                                        exact absurd H (by simp)
                                                    · rw [if_neg c93] at H
                                                      exact absurd H (by simp)
                                                  · rw [if_neg c92] at H
                                                    have c92b0 : (t266 == a2) = false := beq_eq_false_iff_ne.mpr c92
                                                    have c92b1 : (t266 != a2) = true := bne_iff_ne.mpr c92
                                                    obtain rfl := Option.some.inj H
                                                    obtain ⟨Ao96, co96, eo96⟩ := Kd.R_slice HO_21.out
                                                    subst eo96
                                                    go_wp2
                                                    repeat (go_quiet (fail); try go_wp2)
                                                    go_ret
                                                    exact ⟨by first | rfl | (simp [errW_none, errW_some] <;> rfl) | (simp [*, errW_none, errW_some] <;> rfl), by repeat with_reducible first | exact HB.out | apply below_alloc | apply pw_below_drewN | apply below_drew1⟩
                                                · rw [if_neg c91] at H
                                                  have c91b0 : (t265 == (wrap64 (x22_5 * a2))) = false := beq_eq_false_iff_ne.mpr c91
                                                  have c91b1 : (t265 != (wrap64 (x22_5 * a2))) = true := bne_iff_ne.mpr c91
                                                  obtain rfl := Option.some.inj H
                                                  obtain ⟨Ao97, co97, eo97⟩ := Kd.R_slice HO_21.out
                                                  subst eo97
                                                  go_wp2
                                                  repeat (go_quiet (fail); try go_wp2)
                                                  go_ret
                                                  exact ⟨by first | rfl | (simp [errW_none, errW_some] <;> rfl) | (simp [*, errW_none, errW_some] <;> rfl), by repeat with_reducible first | exact HB.out | apply below_alloc | apply pw_below_drewN | apply below_drew1⟩
          · replace c14 := Bool.eq_false_iff.mpr c14
            subst c14
            have H1 : (some false) = some r := by rw [if_neg (show ¬ (false = true) by decide)] at H; exact H
            clear H
            have H := H1
            clear H1
            obtain rfl := Option.some.inj H
            go_enter Try.func12, Try.ntmps12
            go_wp2_with (first | ((with_reducible refine gate_dst (N := 25) rfl ?_); (try (refine gate_guard (by rfl) ?_; dsimp only)); refine Kd.R_lit k39 _ 39 ?hg (N := 25) ?hd (xs := ([] : List (S39))) (inner := []) (ok := fun _ => True) (okp := fun _ => True) ?hr ?hp (fun _ hk => hk) trivial (Below.refl _ _) (Nat.le_refl _) (by simp) ?_; (case hd => rfl); (case hg => rfl); (case hr => first | (go_simp; done) | (go_simp; rfl)); (case hp => exact (Reps.none _ _)); intro v249 w98 ho99 hb hg_ hnew_; clear hg_ hnew_; (first | rw [← Ny248.out] at ho99 | (simp only [Int.reduceToNat] at ho99; rw [← Ny248.out] at ho99)); have n0_ := Aside0.mk (Kd.R_lower ho99 (below_size (by repeat with_reducible first | exact HB.out | apply below_alloc | apply pw_below_drewN | apply below_drew1))); have n1_ := Aside0.mk (below_step (by repeat with_reducible first | exact HB.out | apply below_alloc | apply pw_below_drewN | apply below_drew1) hb); clear HB; have HO250 := n0_; have HB := n1_; clear n0_ n1_; clear hb ho99) | ((with_reducible refine gate_builtin (b := .append) (xs := #[.tmp 25, .tmp 26]) rfl ?_); (try (refine gate_guard (by rfl) ?_; dsimp only)); at_builtin; refine Kd.R_append_rows k39 (w0 := w) w.heap.size rfl (.tmp 25) (.tmp 26) 27 39 (.agg #[(.int .i64 0), (.int .i64 0), (.int .i64 0)]) 24 rfl Try.underlying27 info39 rfl (by decide) (by omega) v249 y248 l0 _ _ _ (fun _ => True) (fun _ => False) rfl rfl ?aO ?aR (fun _ _ h => h) (fun _ h => h.elim) ?aF ?aB ?aS ?aL ?_; (case aR => repeat (first | exact (Kd.C_below HR0.out HB.out) | (with_reducible refine Kd.C_alloc ?_ _) | (with_reducible refine Kd.C_drewN ?_ _) | (with_reducible refine Kd.C_drew ?_))); (case aB => exact (by repeat with_reducible first | exact HB.out | apply below_alloc | apply pw_below_drewN | apply below_drew1)); (case aF => exact (fun _ _ => trivial)); (case aO => exact (by (with_reducible repeat (first | apply Kd.R_alloc | apply Kd.R_drewN | apply Kd.R_drew)); exact HO250.out)); (case aS => exact (below_size (by repeat with_reducible first | exact HB.out | apply below_alloc | apply pw_below_drewN | apply below_drew1))); (case aL => have := LMc6.out; omega); intro v252 w100 ho hb hg hat; rw [← Ny251.out] at ho; have n0_ := Aside0.mk (hb); have n1_ := Aside0.mk (ho); clear HB; clear HO250; have HB := n0_; have HO253 := n1_; clear n0_ n1_; clear ho hb hg hat) | ((with_reducible refine gate_builtin (b := .append) (xs := #[.tmp 27, .tmp 29]) rfl ?_); (try (refine gate_guard (by rfl) ?_; dsimp only)); at_builtin; refine Kd.R_append k39 (w0 := w) w.heap.size rfl (.tmp 27) (.tmp 29) 27 39 (.agg #[(.int .i64 0), (.int .i64 0), (.int .i64 0)]) 24 rfl Try.underlying27 info39 rfl (by decide) (by omega) v252 y251 (⟨9, 0, 0⟩ : S39) [.int .i64 9, .int .i64 0, .int .i64 0] (fun _ => True) (fun _ => False) rfl rfl ?aP (fun _ hk => hk.elim) ?aF ?aO ?aB ?aS ?aL ?_; (case aP => exact k39_mkM _ _ _ (⟨9, 0, 0⟩ : S39)); (case aB => exact (by repeat with_reducible first | exact HB.out | apply below_alloc | apply pw_below_drewN | apply below_drew1)); (case aF => exact (fun _ _ => trivial)); (case aO => exact (by (with_reducible repeat (first | apply Kd.R_alloc | apply Kd.R_drewN | apply Kd.R_drew)); exact HO253.out)); (case aS => exact (below_size (by repeat with_reducible first | exact HB.out | apply below_alloc | apply pw_below_drewN | apply below_drew1))); (case aL => have := LMc7.out; omega); intro v255 w101 ho hb hg hat; rw [← Ny254.out] at ho; have n0_ := Aside0.mk (hb); have n1_ := Aside0.mk (ho); clear HB; clear HO253; have HB := n0_; have HO256 := n1_; clear n0_ n1_; clear ho hb hg hat; obtain ⟨Ao103, co103, eo103⟩ := Kd.R_slice HO256.out; subst eo103; have q102 : ((l0.length : Int) : Int) ≤ ((y254.length : Int) : Int) := of_decide_eq_true (by with_reducible assumption); obtain ⟨i0102, hi0102, _, hsz102, _⟩ := info_parts info39; have hroom102 : y254.length ≤ co103 := (Kd.R_reads' HO256.out).2.1; have hC102 : Kd.C k39 _ Ao103 y254.length y254 := (Kd.R_reads' HO256.out).2.2; have hcut102 := cut_to (P := Try.prog) 27 39 .i64 Try.underlying27 hi0102 Ao103 y254.length co103 (l0.length : Int) (of_decide_eq_true (by with_reducible assumption)) q102 hroom102; have hr102 := Kd.C_take (m := ((l0.length : Int) : Int).toNat) hC102 (by omega); have hy102 : y257.length = ((l0.length : Int) : Int).toNat := (by rw [Ny257.out, List.length_take]; omega); rw [← Ny257.out] at hr102; rw [← hy102] at hcut102; have HR260 := Aside0.mk hr102; have HC260 := Aside0.mk (show y257.length ≤ co103 from by omega); clear hr102 hC102 hroom102 hi0102 hsz102; have KY102 := Aside0.mk hy102; clear hy102; have KL102 := Aside0.mk (show ((l0.length : Int) : Int).toNat ≤ y254.length from by omega); replace q102 := eq_true q102) | (go_at_call 10; (with_reducible refine (window_Many.calls k _ _ y257 a1 a2 t261 t262 _ ?side1 ?side2 A10.out).mono ?_); (case side1 => repeat (first | exact (by repeat (first | (with_reducible exact HR260.out) | (with_reducible refine Kd.C_alloc ?_ _) | (with_reducible refine Kd.C_drewN ?_ _) | (with_reducible refine Kd.C_drew ?_) | exact HR260.out)) | (with_reducible refine Kd.C_alloc ?_ _) | (with_reducible refine Kd.C_drewN ?_ _) | (with_reducible refine Kd.C_drew ?_))); (case side2 => exact HC260.out); rintro e w104 ⟨v263, rfl, ho0, hb⟩; have n0_ := Aside0.mk (Kd.R_below (by (with_reducible repeat (first | apply Kd.R_alloc | apply Kd.R_drewN | apply Kd.R_drew)); exact HO256.out) hb); have n1_ := Aside0.mk (Kd.R_lower ho0 (below_size (by repeat with_reducible first | exact HB.out | apply below_alloc | apply pw_below_drewN | apply below_drew1))); have n2_ := Aside0.mk (Kd.C_below (by repeat (first | (with_reducible exact HR260.out) | (with_reducible refine Kd.C_alloc ?_ _) | (with_reducible refine Kd.C_drewN ?_ _) | (with_reducible refine Kd.C_drew ?_) | exact HR260.out)) hb); have n3_ := Aside0.mk (below_step (by repeat with_reducible first | exact HB.out | apply below_alloc | apply pw_below_drewN | apply below_drew1) hb); clear HO256; clear HR260; clear HB; have HO256 := n0_; have HO264 := n1_; have HR260 := n2_; have HB := n3_; clear n0_ n1_ n2_ n3_; (try clear hb); (try clear hb2); (try clear hk); (try clear hi); (try clear ho0)) | (go_at_call 11; (with_reducible refine (window_Richest.calls k _ _ y257 a1 a2 t265 t266 t267 t268 _ ?side1 ?side2 A11.out).mono ?_); (case side1 => repeat (first | exact (by repeat (first | (with_reducible exact HR260.out) | (with_reducible refine Kd.C_alloc ?_ _) | (with_reducible refine Kd.C_drewN ?_ _) | (with_reducible refine Kd.C_drew ?_) | exact HR260.out)) | (with_reducible refine Kd.C_alloc ?_ _) | (with_reducible refine Kd.C_drewN ?_ _) | (with_reducible refine Kd.C_drew ?_))); (case side2 => exact HC260.out); rintro e w105 ⟨rfl, hb⟩; have n0_ := Aside0.mk (Kd.R_below (by (with_reducible repeat (first | apply Kd.R_alloc | apply Kd.R_drewN | apply Kd.R_drew)); exact HO256.out) hb); have n1_ := Aside0.mk (Kd.R_below (by (with_reducible repeat (first | apply Kd.R_alloc | apply Kd.R_drewN | apply Kd.R_drew)); exact HO264.out) hb); have n2_ := Aside0.mk (Kd.C_below (by repeat (first | (with_reducible exact HR260.out) | (with_reducible refine Kd.C_alloc ?_ _) | (with_reducible refine Kd.C_drewN ?_ _) | (with_reducible refine Kd.C_drew ?_) | exact HR260.out)) hb); have n3_ := Aside0.mk (below_step (by repeat with_reducible first | exact HB.out | apply below_alloc | apply pw_below_drewN | apply below_drew1) hb); clear HO256; clear HO264; clear HR260; clear HB; have HO256 := n0_; have HO264 := n1_; have HR260 := n2_; have HB := n3_; clear n0_ n1_ n2_ n3_; (try clear hb); (try clear hb2); (try clear hk); (try clear hi)) | (go_at_call 8; (with_reducible refine (window_Holes.calls k _ _ y257 a3 a4 t269 t270 _ ?side1 ?side2 A12.out).mono ?_); (case side1 => repeat (first | exact (by repeat (first | (with_reducible exact HR260.out) | (with_reducible refine Kd.C_alloc ?_ _) | (with_reducible refine Kd.C_drewN ?_ _) | (with_reducible refine Kd.C_drew ?_) | exact HR260.out)) | (with_reducible refine Kd.C_alloc ?_ _) | (with_reducible refine Kd.C_drewN ?_ _) | (with_reducible refine Kd.C_drew ?_))); (case side2 => exact HC260.out); rintro e w106 ⟨v271, rfl, ho0, hb⟩; have n0_ := Aside0.mk (Kd.R_below (by (with_reducible repeat (first | apply Kd.R_alloc | apply Kd.R_drewN | apply Kd.R_drew)); exact HO256.out) hb); have n1_ := Aside0.mk (Kd.R_below (by (with_reducible repeat (first | apply Kd.R_alloc | apply Kd.R_drewN | apply Kd.R_drew)); exact HO264.out) hb); have n2_ := Aside0.mk (Kd.R_lower ho0 (below_size (by repeat with_reducible first | exact HB.out | apply below_alloc | apply pw_below_drewN | apply below_drew1))); have n3_ := Aside0.mk (Kd.C_below (by repeat (first | (with_reducible exact HR260.out) | (with_reducible refine Kd.C_alloc ?_ _) | (with_reducible refine Kd.C_drewN ?_ _) | (with_reducible refine Kd.C_drew ?_) | exact HR260.out)) hb); have n4_ := Aside0.mk (below_step (by repeat with_reducible first | exact HB.out | apply below_alloc | apply pw_below_drewN | apply below_drew1) hb); clear HO256; clear HO264; clear HR260; clear HB; have HO256 := n0_; have HO264 := n1_; have HO272 := n2_; have HR260 := n3_; have HB := n4_; clear n0_ n1_ n2_ n3_ n4_; (try clear hb); (try clear hb2); (try clear hk); (try clear hi); (try clear ho0)) | (go_at_call 19; (with_reducible refine (ferruleref9_Same.calls k _ _ y257 _ _ l0 false _ ?side1 ?side2 ?side3 ?side4 A13.out).mono ?_); (case side1 => repeat (first | exact (by repeat (first | (with_reducible exact HR260.out) | (with_reducible refine Kd.C_alloc ?_ _) | (with_reducible refine Kd.C_drewN ?_ _) | (with_reducible refine Kd.C_drew ?_) | exact HR260.out)) | (with_reducible refine Kd.C_alloc ?_ _) | (with_reducible refine Kd.C_drewN ?_ _) | (with_reducible refine Kd.C_drew ?_))); (case side2 => exact HC260.out); (case side3 => repeat (first | exact (Kd.C_below HR0.out HB.out) | (with_reducible refine Kd.C_alloc ?_ _) | (with_reducible refine Kd.C_drewN ?_ _) | (with_reducible refine Kd.C_drew ?_))); (case side4 => exact HC0.out); rintro e w' ⟨rfl, ⟨nd, rfl⟩⟩; (try first | exact ⟨rfl, _, World.drewN_drewN _ _ _⟩ | exact ⟨rfl, _, Eq.trans (World.drewN_drewN _ _ _) (congrArg (World.drewN _) (Nat.add_assoc _ _ _))⟩)))
            repeat (go_quiet (fail); try go_wp2_with (first | ((with_reducible refine gate_dst (N := 25) rfl ?_); (try (refine gate_guard (by rfl) ?_; dsimp only)); refine Kd.R_lit k39 _ 39 ?hg (N := 25) ?hd (xs := ([] : List (S39))) (inner := []) (ok := fun _ => True) (okp := fun _ => True) ?hr ?hp (fun _ hk => hk) trivial (Below.refl _ _) (Nat.le_refl _) (by simp) ?_; (case hd => rfl); (case hg => rfl); (case hr => first | (go_simp; done) | (go_simp; rfl)); (case hp => exact (Reps.none _ _)); intro v249 w98 ho99 hb hg_ hnew_; clear hg_ hnew_; (first | rw [← Ny248.out] at ho99 | (simp only [Int.reduceToNat] at ho99; rw [← Ny248.out] at ho99)); have n0_ := Aside0.mk (Kd.R_lower ho99 (below_size (by repeat with_reducible first | exact HB.out | apply below_alloc | apply pw_below_drewN | apply below_drew1))); have n1_ := Aside0.mk (below_step (by repeat with_reducible first | exact HB.out | apply below_alloc | apply pw_below_drewN | apply below_drew1) hb); clear HB; have HO250 := n0_; have HB := n1_; clear n0_ n1_; clear hb ho99) | ((with_reducible refine gate_builtin (b := .append) (xs := #[.tmp 25, .tmp 26]) rfl ?_); (try (refine gate_guard (by rfl) ?_; dsimp only)); at_builtin; refine Kd.R_append_rows k39 (w0 := w) w.heap.size rfl (.tmp 25) (.tmp 26) 27 39 (.agg #[(.int .i64 0), (.int .i64 0), (.int .i64 0)]) 24 rfl Try.underlying27 info39 rfl (by decide) (by omega) v249 y248 l0 _ _ _ (fun _ => True) (fun _ => False) rfl rfl ?aO ?aR (fun _ _ h => h) (fun _ h => h.elim) ?aF ?aB ?aS ?aL ?_; (case aR => repeat (first | exact (Kd.C_below HR0.out HB.out) | (with_reducible refine Kd.C_alloc ?_ _) | (with_reducible refine Kd.C_drewN ?_ _) | (with_reducible refine Kd.C_drew ?_))); (case aB => exact (by repeat with_reducible first | exact HB.out | apply below_alloc | apply pw_below_drewN | apply below_drew1)); (case aF => exact (fun _ _ => trivial)); (case aO => exact (by (with_reducible repeat (first | apply Kd.R_alloc | apply Kd.R_drewN | apply Kd.R_drew)); exact HO250.out)); (case aS => exact (below_size (by repeat with_reducible first | exact HB.out | apply below_alloc | apply pw_below_drewN | apply below_drew1))); (case aL => have := LMc6.out; omega); intro v252 w100 ho hb hg hat; rw [← Ny251.out] at ho; have n0_ := Aside0.mk (hb); have n1_ := Aside0.mk (ho); clear HB; clear HO250; have HB := n0_; have HO253 := n1_; clear n0_ n1_; clear ho hb hg hat) | ((with_reducible refine gate_builtin (b := .append) (xs := #[.tmp 27, .tmp 29]) rfl ?_); (try (refine gate_guard (by rfl) ?_; dsimp only)); at_builtin; refine Kd.R_append k39 (w0 := w) w.heap.size rfl (.tmp 27) (.tmp 29) 27 39 (.agg #[(.int .i64 0), (.int .i64 0), (.int .i64 0)]) 24 rfl Try.underlying27 info39 rfl (by decide) (by omega) v252 y251 (⟨9, 0, 0⟩ : S39) [.int .i64 9, .int .i64 0, .int .i64 0] (fun _ => True) (fun _ => False) rfl rfl ?aP (fun _ hk => hk.elim) ?aF ?aO ?aB ?aS ?aL ?_; (case aP => exact k39_mkM _ _ _ (⟨9, 0, 0⟩ : S39)); (case aB => exact (by repeat with_reducible first | exact HB.out | apply below_alloc | apply pw_below_drewN | apply below_drew1)); (case aF => exact (fun _ _ => trivial)); (case aO => exact (by (with_reducible repeat (first | apply Kd.R_alloc | apply Kd.R_drewN | apply Kd.R_drew)); exact HO253.out)); (case aS => exact (below_size (by repeat with_reducible first | exact HB.out | apply below_alloc | apply pw_below_drewN | apply below_drew1))); (case aL => have := LMc7.out; omega); intro v255 w101 ho hb hg hat; rw [← Ny254.out] at ho; have n0_ := Aside0.mk (hb); have n1_ := Aside0.mk (ho); clear HB; clear HO253; have HB := n0_; have HO256 := n1_; clear n0_ n1_; clear ho hb hg hat; obtain ⟨Ao103, co103, eo103⟩ := Kd.R_slice HO256.out; subst eo103; have q102 : ((l0.length : Int) : Int) ≤ ((y254.length : Int) : Int) := of_decide_eq_true (by with_reducible assumption); obtain ⟨i0102, hi0102, _, hsz102, _⟩ := info_parts info39; have hroom102 : y254.length ≤ co103 := (Kd.R_reads' HO256.out).2.1; have hC102 : Kd.C k39 _ Ao103 y254.length y254 := (Kd.R_reads' HO256.out).2.2; have hcut102 := cut_to (P := Try.prog) 27 39 .i64 Try.underlying27 hi0102 Ao103 y254.length co103 (l0.length : Int) (of_decide_eq_true (by with_reducible assumption)) q102 hroom102; have hr102 := Kd.C_take (m := ((l0.length : Int) : Int).toNat) hC102 (by omega); have hy102 : y257.length = ((l0.length : Int) : Int).toNat := (by rw [Ny257.out, List.length_take]; omega); rw [← Ny257.out] at hr102; rw [← hy102] at hcut102; have HR260 := Aside0.mk hr102; have HC260 := Aside0.mk (show y257.length ≤ co103 from by omega); clear hr102 hC102 hroom102 hi0102 hsz102; have KY102 := Aside0.mk hy102; clear hy102; have KL102 := Aside0.mk (show ((l0.length : Int) : Int).toNat ≤ y254.length from by omega); replace q102 := eq_true q102) | (go_at_call 10; (with_reducible refine (window_Many.calls k _ _ y257 a1 a2 t261 t262 _ ?side1 ?side2 A10.out).mono ?_); (case side1 => repeat (first | exact (by repeat (first | (with_reducible exact HR260.out) | (with_reducible refine Kd.C_alloc ?_ _) | (with_reducible refine Kd.C_drewN ?_ _) | (with_reducible refine Kd.C_drew ?_) | exact HR260.out)) | (with_reducible refine Kd.C_alloc ?_ _) | (with_reducible refine Kd.C_drewN ?_ _) | (with_reducible refine Kd.C_drew ?_))); (case side2 => exact HC260.out); rintro e w104 ⟨v263, rfl, ho0, hb⟩; have n0_ := Aside0.mk (Kd.R_below (by (with_reducible repeat (first | apply Kd.R_alloc | apply Kd.R_drewN | apply Kd.R_drew)); exact HO256.out) hb); have n1_ := Aside0.mk (Kd.R_lower ho0 (below_size (by repeat with_reducible first | exact HB.out | apply below_alloc | apply pw_below_drewN | apply below_drew1))); have n2_ := Aside0.mk (Kd.C_below (by repeat (first | (with_reducible exact HR260.out) | (with_reducible refine Kd.C_alloc ?_ _) | (with_reducible refine Kd.C_drewN ?_ _) | (with_reducible refine Kd.C_drew ?_) | exact HR260.out)) hb); have n3_ := Aside0.mk (below_step (by repeat with_reducible first | exact HB.out | apply below_alloc | apply pw_below_drewN | apply below_drew1) hb); clear HO256; clear HR260; clear HB; have HO256 := n0_; have HO264 := n1_; have HR260 := n2_; have HB := n3_; clear n0_ n1_ n2_ n3_; (try clear hb); (try clear hb2); (try clear hk); (try clear hi); (try clear ho0)) | (go_at_call 11; (with_reducible refine (window_Richest.calls k _ _ y257 a1 a2 t265 t266 t267 t268 _ ?side1 ?side2 A11.out).mono ?_); (case side1 => repeat (first | exact (by repeat (first | (with_reducible exact HR260.out) | (with_reducible refine Kd.C_alloc ?_ _) | (with_reducible refine Kd.C_drewN ?_ _) | (with_reducible refine Kd.C_drew ?_) | exact HR260.out)) | (with_reducible refine Kd.C_alloc ?_ _) | (with_reducible refine Kd.C_drewN ?_ _) | (with_reducible refine Kd.C_drew ?_))); (case side2 => exact HC260.out); rintro e w105 ⟨rfl, hb⟩; have n0_ := Aside0.mk (Kd.R_below (by (with_reducible repeat (first | apply Kd.R_alloc | apply Kd.R_drewN | apply Kd.R_drew)); exact HO256.out) hb); have n1_ := Aside0.mk (Kd.R_below (by (with_reducible repeat (first | apply Kd.R_alloc | apply Kd.R_drewN | apply Kd.R_drew)); exact HO264.out) hb); have n2_ := Aside0.mk (Kd.C_below (by repeat (first | (with_reducible exact HR260.out) | (with_reducible refine Kd.C_alloc ?_ _) | (with_reducible refine Kd.C_drewN ?_ _) | (with_reducible refine Kd.C_drew ?_) | exact HR260.out)) hb); have n3_ := Aside0.mk (below_step (by repeat with_reducible first | exact HB.out | apply below_alloc | apply pw_below_drewN | apply below_drew1) hb); clear HO256; clear HO264; clear HR260; clear HB; have HO256 := n0_; have HO264 := n1_; have HR260 := n2_; have HB := n3_; clear n0_ n1_ n2_ n3_; (try clear hb); (try clear hb2); (try clear hk); (try clear hi)) | (go_at_call 8; (with_reducible refine (window_Holes.calls k _ _ y257 a3 a4 t269 t270 _ ?side1 ?side2 A12.out).mono ?_); (case side1 => repeat (first | exact (by repeat (first | (with_reducible exact HR260.out) | (with_reducible refine Kd.C_alloc ?_ _) | (with_reducible refine Kd.C_drewN ?_ _) | (with_reducible refine Kd.C_drew ?_) | exact HR260.out)) | (with_reducible refine Kd.C_alloc ?_ _) | (with_reducible refine Kd.C_drewN ?_ _) | (with_reducible refine Kd.C_drew ?_))); (case side2 => exact HC260.out); rintro e w106 ⟨v271, rfl, ho0, hb⟩; have n0_ := Aside0.mk (Kd.R_below (by (with_reducible repeat (first | apply Kd.R_alloc | apply Kd.R_drewN | apply Kd.R_drew)); exact HO256.out) hb); have n1_ := Aside0.mk (Kd.R_below (by (with_reducible repeat (first | apply Kd.R_alloc | apply Kd.R_drewN | apply Kd.R_drew)); exact HO264.out) hb); have n2_ := Aside0.mk (Kd.R_lower ho0 (below_size (by repeat with_reducible first | exact HB.out | apply below_alloc | apply pw_below_drewN | apply below_drew1))); have n3_ := Aside0.mk (Kd.C_below (by repeat (first | (with_reducible exact HR260.out) | (with_reducible refine Kd.C_alloc ?_ _) | (with_reducible refine Kd.C_drewN ?_ _) | (with_reducible refine Kd.C_drew ?_) | exact HR260.out)) hb); have n4_ := Aside0.mk (below_step (by repeat with_reducible first | exact HB.out | apply below_alloc | apply pw_below_drewN | apply below_drew1) hb); clear HO256; clear HO264; clear HR260; clear HB; have HO256 := n0_; have HO264 := n1_; have HO272 := n2_; have HR260 := n3_; have HB := n4_; clear n0_ n1_ n2_ n3_ n4_; (try clear hb); (try clear hb2); (try clear hk); (try clear hi); (try clear ho0)) | (go_at_call 19; (with_reducible refine (ferruleref9_Same.calls k _ _ y257 _ _ l0 false _ ?side1 ?side2 ?side3 ?side4 A13.out).mono ?_); (case side1 => repeat (first | exact (by repeat (first | (with_reducible exact HR260.out) | (with_reducible refine Kd.C_alloc ?_ _) | (with_reducible refine Kd.C_drewN ?_ _) | (with_reducible refine Kd.C_drew ?_) | exact HR260.out)) | (with_reducible refine Kd.C_alloc ?_ _) | (with_reducible refine Kd.C_drewN ?_ _) | (with_reducible refine Kd.C_drew ?_))); (case side2 => exact HC260.out); (case side3 => repeat (first | exact (Kd.C_below HR0.out HB.out) | (with_reducible refine Kd.C_alloc ?_ _) | (with_reducible refine Kd.C_drewN ?_ _) | (with_reducible refine Kd.C_drew ?_))); (case side4 => exact HC0.out); rintro e w' ⟨rfl, ⟨nd, rfl⟩⟩; (try first | exact ⟨rfl, _, World.drewN_drewN _ _ _⟩ | exact ⟨rfl, _, Eq.trans (World.drewN_drewN _ _ _) (congrArg (World.drewN _) (Nat.add_assoc _ _ _))⟩))))
            go_ret
            exact ⟨by first | rfl | (simp [errW_none, errW_some] <;> rfl) | (simp [*, errW_none, errW_some] <;> rfl), by repeat with_reducible first | exact HB.out | apply below_alloc | apply pw_below_drewN | apply below_drew1⟩
        · rw [if_neg c9] at H
          exact absurd H (by simp)
      · rw [if_neg c8] at H
        exact absurd H (by simp)
    · rw [if_neg c7] at H
      exact absurd H (by simp)
  · rw [if_neg c6] at H
    exact absurd H (by simp)

end Go.Proofs.Ytigecigoomofdaa.PWindowTells
