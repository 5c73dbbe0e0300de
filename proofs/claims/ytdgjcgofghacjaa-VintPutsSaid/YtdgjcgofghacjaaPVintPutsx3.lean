-- By a program of this session (NOTES.md). Lean checks it.
import Derived.Test.YtdgjcgofghacjaaPVintPutsx0
import Derived.Test.YtdgjcgofghacjaaPVintPutsx1
import Derived.Test.YtdgjcgofghacjaaPVintPutsx2
namespace Go.Proofs.Ytdgjcgofghacjaa.PVintPuts
open Go.RowKit Go.Proofs.YtdgjcgofghacjaaW.PrintWords Go.Proofs.YtdgjcgofghacjaaW.PrintLast Go.Proofs.YtdgjcgofghacjaaW.PrintMore
attribute [local go_sem] max2_int min2_int max_two min_two max_three min_three max_four min_four   -- for this text's walks alone
set_option linter.unusedVariables false
set_option linter.unusedSimpArgs false

/-! ### ferrulelaw4_VintPuts: function 4 -/
def ferrulelaw4_VintPuts.j0 : Nat → Int → List Int → List Int → List Int → List Int → Bool → Option (Bool)
  | 0, _, _, _, _, _, _ => none
  | k + 1, x0, x1, x2, x8, x9, x65 => if x65 = true then (some false) else ((some (([] : List Int) : List Int)).bind fun y187 => (if 0 ≤ (x1.length : Int) then (if (x1.length : Int) ≤ (x8.length : Int) then ((some (x8.drop ((x1.length : Int) : Int).toNat : List Int)).bind fun y190 => (if y187.length + y190.length < 140737488355328 then ((some (y187 ++ y190 : List Int)).bind fun y194 => (if y194.length + x2.length < 140737488355328 then ((vint_Get.f k (y194 ++ x2)).bind fun bt200 => ((some (([] : List Int) : List Int)).bind fun y203 => (if (x1.length : Int) ≤ (x9.length : Int) then ((some (x9.drop ((x1.length : Int) : Int).toNat : List Int)).bind fun y206 => (if y203.length + y206.length < 140737488355328 then ((some (y203 ++ y206 : List Int)).bind fun y210 => (if y210.length + x2.length < 140737488355328 then ((vint_GetInt.f k (y210 ++ x2)).bind fun bt216 => (if bt200.2.2 = 0 then (if bt216.2.2 = 0 then (if bt200.1 = x0 then (if bt216.1 = (wrap64 (x0)) then (if bt200.2.1 = (wrap64 ((x8.length : Int) - (x1.length : Int))) then (if bt216.2.1 = (wrap64 ((x9.length : Int) - (x1.length : Int))) then ((vint_Len.f k x0).bind fun t219 => (some (t219 == bt200.2.1))) else (some false)) else (some false)) else (some false)) else (some false)) else (some false)) else (some false))) else (none))) else (none))) else (none)))) else (none))) else (none))) else (none)) else (none)))
def ferrulelaw4_VintPuts.f (k : Nat) (a0 : Int) (l1 : List Int) (l2 : List Int) : Option (Bool) := (ferrulelaw4_awake.f k).bind fun t159 => (if t159 = true then (if (strOfNums l1).size ≤ 140737488355328 then ((some (Kd.bytesNums (strOfNums l1) : List Int)).bind fun y160 => (if y160.length < 140737488355328 then ((some (y160 ++ [9] : List Int)).bind fun y163 => (if 0 ≤ (l1.length : Int) then (if (l1.length : Int) ≤ (y163.length : Int) then ((vint_Put.f k (y163.take ((l1.length : Int) : Int).toNat) a0).bind fun t170 => ((vint_PutInt.f k (y163.take ((l1.length : Int) : Int).toNat) (wrap64 (a0))).bind fun t177 => ((ferruleref4_Put.f k a0).bind fun t180 => (if (strOfNums l1).size + (strOfNums t180).size ≤ 9223372036854775807 then (if (strOfNums t170).toList = ((strOfNums l1) ++ (strOfNums t180)).toList then ((ferruleref4_Of.f (wrap64 (a0))).bind fun t183 => ((ferruleref4_Put.f k t183).bind fun t184 => (if (strOfNums l1).size + (strOfNums t184).size ≤ 9223372036854775807 then (if (strOfNums t177).toList = ((strOfNums l1) ++ (strOfNums t184)).toList then (if (strOfNums l1).size + 1 ≤ 9223372036854775807 then (ferrulelaw4_VintPuts.j0 k a0 l1 l2 t170 t177 ((strOfNums y163).toList != ((strOfNums l1) ++ (⟨#[9]⟩ : ByteArray)).toList)) else (none)) else (ferrulelaw4_VintPuts.j0 k a0 l1 l2 t170 t177 true)) else (none)))) else (ferrulelaw4_VintPuts.j0 k a0 l1 l2 t170 t177 true)) else (none))))) else (none)) else (none))) else (none))) else (none)) else (some false))
theorem ferrulelaw4_VintPuts.mono_l : ∀ k, (∀ y0 y1 y2 y3 y4 y5, LeO (ferrulelaw4_VintPuts.j0 k y0 y1 y2 y3 y4 y5) (ferrulelaw4_VintPuts.j0 (k + 1) y0 y1 y2 y3 y4 y5))
  | 0 => fun _ _ _ _ _ _ r h => by simp [ferrulelaw4_VintPuts.j0] at h
  | k + 1 => by
    have ih0 := ferrulelaw4_VintPuts.mono_l k
    · intro y0 y1 y2 y3 y4 y5
      unfold ferrulelaw4_VintPuts.j0
      repeat' first
      | (with_reducible exact ih0 _ _ _ _ _ _)
      | (with_reducible exact ferrulelaw4_awake.mono _)
      | (with_reducible exact ferruleref4_Put.mono _ _)
      | (with_reducible exact vint_Get.mono _ _)
      | (with_reducible exact vint_GetInt.mono _ _)
      | (with_reducible exact vint_Len.mono _ _)
      | (with_reducible exact vint_Put.mono _ _ _)
      | (with_reducible exact vint_PutInt.mono _ _ _)
      | (with_reducible exact LeO.refl _)
      | (with_reducible exact LeO.none _)
      | (with_reducible refine LeO.ite ?_ ?_)
      | (with_reducible refine LeO.bind ?_ (fun _ => ?_))
      | exact ih0 _ _ _ _ _ _
      | exact ferrulelaw4_awake.mono _
      | exact ferruleref4_Put.mono _ _
      | exact vint_Get.mono _ _
      | exact vint_GetInt.mono _ _
      | exact vint_Len.mono _ _
      | exact vint_Put.mono _ _ _
      | exact vint_PutInt.mono _ _ _
      | exact LeO.none _
      | refine LeO.ite ?_ ?_
      | refine LeO.bind ?_ (fun _ => ?_)
theorem ferrulelaw4_VintPuts.mono : ∀ a0 a1 a2 k, LeO (ferrulelaw4_VintPuts.f k a0 a1 a2) (ferrulelaw4_VintPuts.f (k + 1) a0 a1 a2) := by
  intro a0 a1 a2 k
  have ih0 := ferrulelaw4_VintPuts.mono_l k
  unfold ferrulelaw4_VintPuts.f
  repeat' first
      | (with_reducible exact ih0 _ _ _ _ _ _)
      | (with_reducible exact ferrulelaw4_awake.mono _)
      | (with_reducible exact ferruleref4_Put.mono _ _)
      | (with_reducible exact vint_Get.mono _ _)
      | (with_reducible exact vint_GetInt.mono _ _)
      | (with_reducible exact vint_Len.mono _ _)
      | (with_reducible exact vint_Put.mono _ _ _)
      | (with_reducible exact vint_PutInt.mono _ _ _)
      | (with_reducible exact LeO.refl _)
      | (with_reducible exact LeO.none _)
      | (with_reducible refine LeO.ite ?_ ?_)
      | (with_reducible refine LeO.bind ?_ (fun _ => ?_))
      | exact ih0 _ _ _ _ _ _
      | exact ferrulelaw4_awake.mono _
      | exact ferruleref4_Put.mono _ _
      | exact vint_Get.mono _ _
      | exact vint_GetInt.mono _ _
      | exact vint_Len.mono _ _
      | exact vint_Put.mono _ _ _
      | exact vint_PutInt.mono _ _ _
      | exact LeO.none _
      | refine LeO.ite ?_ ?_
      | refine LeO.bind ?_ (fun _ => ?_)
def ferrulelaw4_VintPuts.T6 : Bool × List (List Nat × List Nat) := (true, [([], []), ([0], [0]), ([], []), ([2], [2]), ([], []), ([4], [4]), ([5], [5]), ([3, 6], [3, 6]), ([1, 7], [1, 7]), ([8, 5], [8]), ([9], [9]), ([10, 9], [9, 10]), ([9], [9]), ([12, 9], [9, 12]), ([9], [9]), ([14, 9], [9, 14]), ([15, 9, 9], [9, 15]), ([16, 16, 9], [9, 16]), ([17, 9], [9, 17]), ([13, 18, 9], [9, 13, 18]), ([11, 19, 9], [9, 11, 19]), ([9, 20], [9, 20]), ([21, 17], [21]), ([22], [22]), ([23, 22], [22, 23]), ([22], [22]), ([25, 22], [22, 25]), ([26, 22], [22, 26]), ([24, 27, 22], [22, 24, 27]), ([22, 28], [22, 28])])
def ferrulelaw4_VintPuts.B6 : List Nat := [0, 1, 0, 4, 0, 16, 48, 124, 255, 511, 1023, 2047, 1023, 5119, 1023, 17407, 50175, 115711, 246783, 521215, 1048575, 2097151, 4194303, 8388607, 16777215, 8388607, 41943039, 109051903, 268435455, 536870911]
theorem ferrulelaw4_VintPuts.tab6 : rtab .any (opsOf Try.f4 6) = ferrulelaw4_VintPuts.T6 := by kernel_rfl
theorem ferrulelaw4_VintPuts.bits6 : waitsOk ferrulelaw4_VintPuts.T6.2 ferrulelaw4_VintPuts.B6 = true := by kernel_rfl
theorem ferrulelaw4_VintPuts.jf_ : ∀ (k : Nat) {r : Bool} {x0 x1 x2 x3 x4}, ferrulelaw4_VintPuts.j0 k x0 x1 x2 x3 x4 true = some r → r = false := by
  intro k
  cases k <;> intros <;> simp_all [ferrulelaw4_VintPuts.j0]
set_option maxHeartbeats 8000000 in
set_option maxRecDepth 100000 in
theorem ferrulelaw4_VintPuts.calls (k : Nat) (a0 : Int) (A1 : Option Addr) (c1 : Nat) (l1 : List Int) (A2 : Option Addr) (c2 : Nat) (l2 : List Int) (r : Bool) (w : World) (hr1 : Kd.C (Kd.int .u8) w A1 l1.length l1) (hc1 : l1.length ≤ c1) (hr2 : Kd.C (Kd.int .u8) w A2 l2.length l2) (hc2 : l2.length ≤ c2) (Hr : r = true) (h : ferrulelaw4_VintPuts.f k a0 l1 l2 = some r) :
    Calls Try.prog 4 #[.int .u64 a0, .slice A1 l1.length c1, .slice A2 l2.length c2] w fun e w' => e = .returned (.bool r) ∧ Below w.heap.size w w' := by
 have HR1 := Aside0.mk hr1
 have HC1 := Aside0.mk hc1
 clear hr1 hc1
 have HR2 := Aside0.mk hr2
 have HC2 := Aside0.mk hc2
 clear hr2 hc2
 have HB := Aside0.mk (Below.refl w.heap.size w)
 have H : ((ferrulelaw4_awake.f k).bind fun t159 => (if t159 = true then (if (strOfNums l1).size ≤ 140737488355328 then ((some (Kd.bytesNums (strOfNums l1) : List Int)).bind fun y160 => (if y160.length < 140737488355328 then ((some (y160 ++ [9] : List Int)).bind fun y163 => (if 0 ≤ (l1.length : Int) then (if (l1.length : Int) ≤ (y163.length : Int) then ((vint_Put.f k (y163.take ((l1.length : Int) : Int).toNat) a0).bind fun t170 => ((vint_PutInt.f k (y163.take ((l1.length : Int) : Int).toNat) (wrap64 (a0))).bind fun t177 => ((ferruleref4_Put.f k a0).bind fun t180 => (if (strOfNums l1).size + (strOfNums t180).size ≤ 9223372036854775807 then (if (strOfNums t170).toList = ((strOfNums l1) ++ (strOfNums t180)).toList then ((ferruleref4_Of.f (wrap64 (a0))).bind fun t183 => ((ferruleref4_Put.f k t183).bind fun t184 => (if (strOfNums l1).size + (strOfNums t184).size ≤ 9223372036854775807 then (if (strOfNums t177).toList = ((strOfNums l1) ++ (strOfNums t184)).toList then (if (strOfNums l1).size + 1 ≤ 9223372036854775807 then (ferrulelaw4_VintPuts.j0 k a0 l1 l2 t170 t177 ((strOfNums y163).toList != ((strOfNums l1) ++ (⟨#[9]⟩ : ByteArray)).toList)) else (none)) else (ferrulelaw4_VintPuts.j0 k a0 l1 l2 t170 t177 true)) else (none)))) else (ferrulelaw4_VintPuts.j0 k a0 l1 l2 t170 t177 true)) else (none))))) else (none)) else (none))) else (none))) else (none)) else (some false))) = some r := h
 clear h
 replace H := Option.bind_eq_some_iff.mp H
 obtain ⟨t159, A40, H⟩ := H
 replace H : (if t159 = true then (if (strOfNums l1).size ≤ 140737488355328 then ((some (Kd.bytesNums (strOfNums l1) : List Int)).bind fun y160 => (if y160.length < 140737488355328 then ((some (y160 ++ [9] : List Int)).bind fun y163 => (if 0 ≤ (l1.length : Int) then (if (l1.length : Int) ≤ (y163.length : Int) then ((vint_Put.f k (y163.take ((l1.length : Int) : Int).toNat) a0).bind fun t170 => ((vint_PutInt.f k (y163.take ((l1.length : Int) : Int).toNat) (wrap64 (a0))).bind fun t177 => ((ferruleref4_Put.f k a0).bind fun t180 => (if (strOfNums l1).size + (strOfNums t180).size ≤ 9223372036854775807 then (if (strOfNums t170).toList = ((strOfNums l1) ++ (strOfNums t180)).toList then ((ferruleref4_Of.f (wrap64 (a0))).bind fun t183 => ((ferruleref4_Put.f k t183).bind fun t184 => (if (strOfNums l1).size + (strOfNums t184).size ≤ 9223372036854775807 then (if (strOfNums t177).toList = ((strOfNums l1) ++ (strOfNums t184)).toList then (if (strOfNums l1).size + 1 ≤ 9223372036854775807 then (ferrulelaw4_VintPuts.j0 k a0 l1 l2 t170 t177 ((strOfNums y163).toList != ((strOfNums l1) ++ (⟨#[9]⟩ : ByteArray)).toList)) else (none)) else (ferrulelaw4_VintPuts.j0 k a0 l1 l2 t170 t177 true)) else (none)))) else (ferrulelaw4_VintPuts.j0 k a0 l1 l2 t170 t177 true)) else (none))))) else (none)) else (none))) else (none))) else (none)) else (some false)) = some r := H
 have A4 := Aside0.mk A40
 clear A40
 by_cases c5 : t159 = true
 {
 subst c5
 have H1 : (if (strOfNums l1).size ≤ 140737488355328 then ((some (Kd.bytesNums (strOfNums l1) : List Int)).bind fun y160 => (if y160.length < 140737488355328 then ((some (y160 ++ [9] : List Int)).bind fun y163 => (if 0 ≤ (l1.length : Int) then (if (l1.length : Int) ≤ (y163.length : Int) then ((vint_Put.f k (y163.take ((l1.length : Int) : Int).toNat) a0).bind fun t170 => ((vint_PutInt.f k (y163.take ((l1.length : Int) : Int).toNat) (wrap64 (a0))).bind fun t177 => ((ferruleref4_Put.f k a0).bind fun t180 => (if (strOfNums l1).size + (strOfNums t180).size ≤ 9223372036854775807 then (if (strOfNums t170).toList = ((strOfNums l1) ++ (strOfNums t180)).toList then ((ferruleref4_Of.f (wrap64 (a0))).bind fun t183 => ((ferruleref4_Put.f k t183).bind fun t184 => (if (strOfNums l1).size + (strOfNums t184).size ≤ 9223372036854775807 then (if (strOfNums t177).toList = ((strOfNums l1) ++ (strOfNums t184)).toList then (if (strOfNums l1).size + 1 ≤ 9223372036854775807 then (ferrulelaw4_VintPuts.j0 k a0 l1 l2 t170 t177 ((strOfNums y163).toList != ((strOfNums l1) ++ (⟨#[9]⟩ : ByteArray)).toList)) else (none)) else (ferrulelaw4_VintPuts.j0 k a0 l1 l2 t170 t177 true)) else (none)))) else (ferrulelaw4_VintPuts.j0 k a0 l1 l2 t170 t177 true)) else (none))))) else (none)) else (none))) else (none))) else (none)) = some r := by rw [if_pos rfl] at H; exact H
 clear H
 have H := H1
 clear H1
 by_cases c6 : (strOfNums l1).size ≤ 140737488355328
 {
 rw [if_pos c6] at H
 have c6b0 := eq_true c6
 have c6b1 : decide ((strOfNums l1).size ≤ 140737488355328) = true := decide_eq_true c6
 clear c6
 obtain ⟨y160, hy160⟩ : ∃ y_ : List Int, y_ = (Kd.bytesNums (strOfNums l1)) := ⟨_, rfl⟩
 replace H : (if y160.length < 140737488355328 then ((some (y160 ++ [9] : List Int)).bind fun y163 => (if 0 ≤ (l1.length : Int) then (if (l1.length : Int) ≤ (y163.length : Int) then ((vint_Put.f k (y163.take ((l1.length : Int) : Int).toNat) a0).bind fun t170 => ((vint_PutInt.f k (y163.take ((l1.length : Int) : Int).toNat) (wrap64 (a0))).bind fun t177 => ((ferruleref4_Put.f k a0).bind fun t180 => (if (strOfNums l1).size + (strOfNums t180).size ≤ 9223372036854775807 then (if (strOfNums t170).toList = ((strOfNums l1) ++ (strOfNums t180)).toList then ((ferruleref4_Of.f (wrap64 (a0))).bind fun t183 => ((ferruleref4_Put.f k t183).bind fun t184 => (if (strOfNums l1).size + (strOfNums t184).size ≤ 9223372036854775807 then (if (strOfNums t177).toList = ((strOfNums l1) ++ (strOfNums t184)).toList then (if (strOfNums l1).size + 1 ≤ 9223372036854775807 then (ferrulelaw4_VintPuts.j0 k a0 l1 l2 t170 t177 ((strOfNums y163).toList != ((strOfNums l1) ++ (⟨#[9]⟩ : ByteArray)).toList)) else (none)) else (ferrulelaw4_VintPuts.j0 k a0 l1 l2 t170 t177 true)) else (none)))) else (ferrulelaw4_VintPuts.j0 k a0 l1 l2 t170 t177 true)) else (none))))) else (none)) else (none))) else (none)) = some r := by first | (rw [hy160]; with_reducible exact H) | (have H2_ := (Option.bind_some _ _).symm.trans H; rw [hy160]; with_reducible exact H2_) | (have H2_ := (Option.bind_some _ _).symm.trans H; with_reducible exact H2_) | with_reducible exact H | (rw [hy160]; exact H) | exact H
 have Ny160 := Aside0.mk hy160
 clear hy160
 by_cases c7 : y160.length < 140737488355328
 {
 rw [if_pos c7] at H
 have LMc7 := Aside0.mk c7
 clear c7
 obtain ⟨y163, hy163⟩ : ∃ y_ : List Int, y_ = (y160 ++ [9]) := ⟨_, rfl⟩
 replace H : (if 0 ≤ (l1.length : Int) then (if (l1.length : Int) ≤ (y163.length : Int) then ((vint_Put.f k (y163.take ((l1.length : Int) : Int).toNat) a0).bind fun t170 => ((vint_PutInt.f k (y163.take ((l1.length : Int) : Int).toNat) (wrap64 (a0))).bind fun t177 => ((ferruleref4_Put.f k a0).bind fun t180 => (if (strOfNums l1).size + (strOfNums t180).size ≤ 9223372036854775807 then (if (strOfNums t170).toList = ((strOfNums l1) ++ (strOfNums t180)).toList then ((ferruleref4_Of.f (wrap64 (a0))).bind fun t183 => ((ferruleref4_Put.f k t183).bind fun t184 => (if (strOfNums l1).size + (strOfNums t184).size ≤ 9223372036854775807 then (if (strOfNums t177).toList = ((strOfNums l1) ++ (strOfNums t184)).toList then (if (strOfNums l1).size + 1 ≤ 9223372036854775807 then (ferrulelaw4_VintPuts.j0 k a0 l1 l2 t170 t177 ((strOfNums y163).toList != ((strOfNums l1) ++ (⟨#[9]⟩ : ByteArray)).toList)) else (none)) else (ferrulelaw4_VintPuts.j0 k a0 l1 l2 t170 t177 true)) else (none)))) else (ferrulelaw4_VintPuts.j0 k a0 l1 l2 t170 t177 true)) else (none))))) else (none)) else (none)) = some r := by first | (rw [hy163]; with_reducible exact H) | (have H2_ := (Option.bind_some _ _).symm.trans H; rw [hy163]; with_reducible exact H2_) | (have H2_ := (Option.bind_some _ _).symm.trans H; with_reducible exact H2_) | with_reducible exact H | (rw [hy163]; exact H) | exact H
 have Ny163 := Aside0.mk hy163
 clear hy163
 by_cases c8 : 0 ≤ (l1.length : Int)
 {
 rw [if_pos c8] at H
 have c8b0 := eq_true c8
 have c8b1 : decide (0 ≤ (l1.length : Int)) = true := decide_eq_true c8
 clear c8
 by_cases c9 : (l1.length : Int) ≤ (y163.length : Int)
 {
 rw [if_pos c9] at H
 have c9b0 := eq_true c9
 have c9b1 : decide ((l1.length : Int) ≤ (y163.length : Int)) = true := decide_eq_true c9
 clear c9
 obtain ⟨y166, hy166⟩ : ∃ y_ : List Int, y_ = (y163.take ((l1.length : Int) : Int).toNat) := ⟨_, rfl⟩
 replace H : ((vint_Put.f k y166 a0).bind fun t170 => ((vint_PutInt.f k (y163.take ((l1.length : Int) : Int).toNat) (wrap64 (a0))).bind fun t177 => ((ferruleref4_Put.f k a0).bind fun t180 => (if (strOfNums l1).size + (strOfNums t180).size ≤ 9223372036854775807 then (if (strOfNums t170).toList = ((strOfNums l1) ++ (strOfNums t180)).toList then ((ferruleref4_Of.f (wrap64 (a0))).bind fun t183 => ((ferruleref4_Put.f k t183).bind fun t184 => (if (strOfNums l1).size + (strOfNums t184).size ≤ 9223372036854775807 then (if (strOfNums t177).toList = ((strOfNums l1) ++ (strOfNums t184)).toList then (if (strOfNums l1).size + 1 ≤ 9223372036854775807 then (ferrulelaw4_VintPuts.j0 k a0 l1 l2 t170 t177 ((strOfNums y163).toList != ((strOfNums l1) ++ (⟨#[9]⟩ : ByteArray)).toList)) else (none)) else (ferrulelaw4_VintPuts.j0 k a0 l1 l2 t170 t177 true)) else (none)))) else (ferrulelaw4_VintPuts.j0 k a0 l1 l2 t170 t177 true)) else (none))))) = some r := by first | (rw [hy166]; with_reducible exact H) | (have H2_ := (Option.bind_some _ _).symm.trans H; rw [hy166]; with_reducible exact H2_) | (have H2_ := (Option.bind_some _ _).symm.trans H; with_reducible exact H2_) | with_reducible exact H | (rw [hy166]; exact H) | exact H
 have Ny166 := Aside0.mk hy166
 clear hy166
 replace H := Option.bind_eq_some_iff.mp H
 obtain ⟨t170, A100, H⟩ := H
 replace H : ((vint_PutInt.f k (y163.take ((l1.length : Int) : Int).toNat) (wrap64 (a0))).bind fun t177 => ((ferruleref4_Put.f k a0).bind fun t180 => (if (strOfNums l1).size + (strOfNums t180).size ≤ 9223372036854775807 then (if (strOfNums t170).toList = ((strOfNums l1) ++ (strOfNums t180)).toList then ((ferruleref4_Of.f (wrap64 (a0))).bind fun t183 => ((ferruleref4_Put.f k t183).bind fun t184 => (if (strOfNums l1).size + (strOfNums t184).size ≤ 9223372036854775807 then (if (strOfNums t177).toList = ((strOfNums l1) ++ (strOfNums t184)).toList then (if (strOfNums l1).size + 1 ≤ 9223372036854775807 then (ferrulelaw4_VintPuts.j0 k a0 l1 l2 t170 t177 ((strOfNums y163).toList != ((strOfNums l1) ++ (⟨#[9]⟩ : ByteArray)).toList)) else (none)) else (ferrulelaw4_VintPuts.j0 k a0 l1 l2 t170 t177 true)) else (none)))) else (ferrulelaw4_VintPuts.j0 k a0 l1 l2 t170 t177 true)) else (none)))) = some r := H
 have A10 := Aside0.mk A100
 clear A100
 have c11b0 := eq_true (of_decide_eq_true (by first | (with_reducible assumption) | assumption) : 0 ≤ (l1.length : Int))
 have c12b0 := eq_true (of_decide_eq_true (by first | (with_reducible assumption) | assumption) : (l1.length : Int) ≤ (y163.length : Int))
 obtain ⟨y173, hy173⟩ : ∃ y_ : List Int, y_ = (y163.take ((l1.length : Int) : Int).toNat) := ⟨_, rfl⟩
 replace H : ((vint_PutInt.f k y173 (wrap64 (a0))).bind fun t177 => ((ferruleref4_Put.f k a0).bind fun t180 => (if (strOfNums l1).size + (strOfNums t180).size ≤ 9223372036854775807 then (if (strOfNums t170).toList = ((strOfNums l1) ++ (strOfNums t180)).toList then ((ferruleref4_Of.f (wrap64 (a0))).bind fun t183 => ((ferruleref4_Put.f k t183).bind fun t184 => (if (strOfNums l1).size + (strOfNums t184).size ≤ 9223372036854775807 then (if (strOfNums t177).toList = ((strOfNums l1) ++ (strOfNums t184)).toList then (if (strOfNums l1).size + 1 ≤ 9223372036854775807 then (ferrulelaw4_VintPuts.j0 k a0 l1 l2 t170 t177 ((strOfNums y163).toList != ((strOfNums l1) ++ (⟨#[9]⟩ : ByteArray)).toList)) else (none)) else (ferrulelaw4_VintPuts.j0 k a0 l1 l2 t170 t177 true)) else (none)))) else (ferrulelaw4_VintPuts.j0 k a0 l1 l2 t170 t177 true)) else (none)))) = some r := by first | (rw [hy173]; with_reducible exact H) | (have H2_ := (Option.bind_some _ _).symm.trans H; rw [hy173]; with_reducible exact H2_) | (have H2_ := (Option.bind_some _ _).symm.trans H; with_reducible exact H2_) | with_reducible exact H | (rw [hy173]; exact H) | exact H
 have Ny173 := Aside0.mk hy173
 clear hy173
 replace H := Option.bind_eq_some_iff.mp H
 obtain ⟨t177, A130, H⟩ := H
 replace H : ((ferruleref4_Put.f k a0).bind fun t180 => (if (strOfNums l1).size + (strOfNums t180).size ≤ 9223372036854775807 then (if (strOfNums t170).toList = ((strOfNums l1) ++ (strOfNums t180)).toList then ((ferruleref4_Of.f (wrap64 (a0))).bind fun t183 => ((ferruleref4_Put.f k t183).bind fun t184 => (if (strOfNums l1).size + (strOfNums t184).size ≤ 9223372036854775807 then (if (strOfNums t177).toList = ((strOfNums l1) ++ (strOfNums t184)).toList then (if (strOfNums l1).size + 1 ≤ 9223372036854775807 then (ferrulelaw4_VintPuts.j0 k a0 l1 l2 t170 t177 ((strOfNums y163).toList != ((strOfNums l1) ++ (⟨#[9]⟩ : ByteArray)).toList)) else (none)) else (ferrulelaw4_VintPuts.j0 k a0 l1 l2 t170 t177 true)) else (none)))) else (ferrulelaw4_VintPuts.j0 k a0 l1 l2 t170 t177 true)) else (none))) = some r := H
 have A13 := Aside0.mk A130
 clear A130
 have HC14 := Aside0.mk H
 clear H
 go_enter Try.func4, Try.ntmps4
 go_upto_region 6 with (first | ((with_reducible refine gate_callee (f := 8) rfl ?_); refine goesL_ (some 16) rfl rfl Try.func8 (by kernel_rfl) rfl #[] rfl (by (try simp only [List.map_toArray, List.map_cons, List.map_nil]); first | done | rfl | (simp only [List.length_drop, List.length_take]; rfl)) ?_; (with_reducible refine (ferrulelaw4_awake.calls k  true _ A4.out).mono ?_); rintro e w15 ⟨rfl, hb⟩; refine ⟨_, rfl, ?_⟩; have n0_ := Aside0.mk (below_step (by repeat (first | (with_reducible first | exact HB.out | apply below_alloc | apply pw_below_drewN | apply below_drew1) | exact HB.out)) hb); clear HB; have HB := n0_; clear n0_; (try clear hb); (try clear hb2); (try clear hk); (try clear hi); have hcv16 := Kd.C_string (P := Try.prog) (A := A1) (c := c1) Try.underlying27 Try.underlying5 Try.underlying9 (Kd.C_below HR1.out HB.out); have hcv16N := fun m_ => Kd.C_string (P := Try.prog) (A := A1) (c := c1) Try.underlying27 Try.underlying5 Try.underlying9 (Kd.C_drewN (Kd.C_below HR1.out HB.out) m_)) | ((with_reducible refine gate_dst (N := 20) rfl ?_); (try (refine gate_guard (by rfl) ?_; dsimp only)); refine Kd.Q_bytes _ 5 rfl (N := 20) rfl 9 27 _ rfl (strOfNums l1) rfl Try.underlying9 Try.underlying27 Try.underlying5 (ok := fun _ => True) trivial (Below.refl _ _) (Nat.le_refl _) (of_decide_eq_true (by first | (with_reducible assumption) | assumption)) ?_; intro v161 w17 ho18 hb hg_ hnew_; clear hg_ hnew_; (first | rw [← Ny160.out] at ho18 | (simp only [Int.reduceToNat] at ho18; rw [← Ny160.out] at ho18)); have n0_ := Aside0.mk (Kd.Q_lower ho18 (below_size (by repeat (first | (with_reducible first | exact HB.out | apply below_alloc | apply pw_below_drewN | apply below_drew1) | exact HB.out)))); have n1_ := Aside0.mk (below_step (by repeat (first | (with_reducible first | exact HB.out | apply below_alloc | apply pw_below_drewN | apply below_drew1) | exact HB.out)) hb); clear HB; have HO162 := n0_; have HB := n1_; clear n0_ n1_; clear hb ho18) | ((with_reducible refine gate_builtin (b := .append) (xs := #[.tmp 20, .tmp 21]) rfl ?_); (try (refine gate_guard (by rfl) ?_; dsimp only)); at_builtin; refine Kd.Q_append (Kd.int .u8) (w0 := w) w.heap.size rfl (.tmp 20) (.tmp 21) 27 5 (.int .u8 0) 1 rfl Try.underlying27 info5 rfl (by decide) (by omega) v161 y160 9 [.int .u8 9] (fun _ => True) (fun _ => False) rfl rfl ?aP (fun _ hk => hk.elim) ?aF ?aO ?aB ?aS ?aL ?_; (case aP => exact rfl); (case aB => exact (by repeat (first | (with_reducible first | exact HB.out | apply below_alloc | apply pw_below_drewN | apply below_drew1) | exact HB.out))); (case aF => exact (fun _ _ => trivial)); (case aO => exact (by (with_reducible repeat (first | apply Kd.Q_alloc | apply Kd.Q_drewN | apply Kd.Q_drew)); exact HO162.out)); (case aS => exact (below_size (by repeat (first | (with_reducible first | exact HB.out | apply below_alloc | apply pw_below_drewN | apply below_drew1) | exact HB.out)))); (case aL => have := LMc7.out; omega); intro v164 w19 ho hb hg hat; rw [← Ny163.out] at ho; have n0_ := Aside0.mk (hb); have n1_ := Aside0.mk (ho); clear HB; clear HO162; have HB := n0_; have HO165 := n1_; clear n0_ n1_; clear ho hb hg hat; obtain ⟨Ao21, co21, eo21, _⟩ := Kd.Q_slice HO165.out; subst eo21; have q20 : ((l1.length : Int) : Int) ≤ ((y163.length : Int) : Int) := of_decide_eq_true (by first | (with_reducible assumption) | assumption); obtain ⟨i020, hi020, _, hsz20, _⟩ := info_parts info5; have hroom20 : y163.length ≤ co21 := (Kd.Q_reads' HO165.out).2.1; have hC20 : Kd.C (Kd.int .u8) _ Ao21 y163.length y163 := (Kd.Q_reads' HO165.out).2.2; have hcut20 := cut_to (P := Try.prog) 27 5 .i64 Try.underlying27 hi020 Ao21 y163.length co21 (l1.length : Int) (of_decide_eq_true (by first | (with_reducible assumption) | assumption)) q20 hroom20; have hr20 := Kd.C_take (m := ((l1.length : Int) : Int).toNat) hC20 (by omega); have hy20 : y166.length = ((l1.length : Int) : Int).toNat := (by rw [Ny166.out, List.length_take]; omega); rw [← Ny166.out] at hr20; rw [← hy20] at hcut20; have HR169 := Aside0.mk hr20; have HC169 := Aside0.mk (show y166.length ≤ co21 from by omega); clear hr20 hC20 hroom20 hi020 hsz20; have KY20 := Aside0.mk hy20; clear hy20; have KL20 := Aside0.mk (show ((l1.length : Int) : Int).toNat ≤ y163.length from by omega); replace q20 := eq_true q20) | ((with_reducible refine gate_callee (f := 11) rfl ?_); refine goesL_ (some 28) rfl rfl Try.func11 (by kernel_rfl) rfl #[.slice Ao21 y166.length co21, .int .u64 a0] rfl (by (try simp only [List.map_toArray, List.map_cons, List.map_nil]); first | done | rfl | (simp only [List.length_drop, List.length_take]; rfl)) ?_; (with_reducible refine (vint_Put.calls k _ _ y166 a0 t170 _ ?side1 ?side2 A10.out).mono ?_); (case side1 => repeat (first | exact (by repeat (first | (with_reducible exact HR169.out) | (with_reducible refine Kd.C_alloc ?_ _) | (with_reducible refine Kd.C_drewN ?_ _) | (with_reducible refine Kd.C_drew ?_) | exact HR169.out)) | (with_reducible refine Kd.C_alloc ?_ _) | (with_reducible refine Kd.C_drewN ?_ _) | (with_reducible refine Kd.C_drew ?_))); (case side2 => exact HC169.out); rintro e w22 ⟨v171, rfl, ho0, hb⟩; refine ⟨_, rfl, ?_⟩; have n0_ := Aside0.mk (Kd.Q_elder' (by (with_reducible repeat (first | apply Kd.Q_alloc | apply Kd.Q_drewN | apply Kd.Q_drew)); exact HO165.out) (Kd.R_base ho0) hb); have n1_ := Aside0.mk (Kd.R_lower (Kd.R_new' ho0 (Kd.Q_lt (by (with_reducible repeat (first | apply Kd.Q_alloc | apply Kd.Q_drewN | apply Kd.Q_drew)); exact HO165.out))) (below_size (by repeat (first | (with_reducible first | exact HB.out | apply below_alloc | apply pw_below_drewN | apply below_drew1) | exact HB.out)))); have n2_ := Aside0.mk (Kd.C_below (by repeat (first | (with_reducible exact HR169.out) | (with_reducible refine Kd.C_alloc ?_ _) | (with_reducible refine Kd.C_drewN ?_ _) | (with_reducible refine Kd.C_drew ?_) | exact HR169.out)) hb); have n3_ := Aside0.mk (below_step (by repeat (first | (with_reducible first | exact HB.out | apply below_alloc | apply pw_below_drewN | apply below_drew1) | exact HB.out)) hb); clear HO165; clear HR169; clear HB; have HO165 := n0_; have HO172 := n1_; have HR169 := n2_; have HB := n3_; clear n0_ n1_ n2_ n3_; (try clear hb); (try clear hb2); (try clear hk); (try clear hi); (try clear ho0); (try clear hcut20); have q23 : ((l1.length : Int) : Int) ≤ ((y163.length : Int) : Int) := of_decide_eq_true (by first | (with_reducible assumption) | assumption); obtain ⟨i023, hi023, _, hsz23, _⟩ := info_parts info5; have hroom23 : y163.length ≤ co21 := (Kd.Q_reads' HO165.out).2.1; have hC23 : Kd.C (Kd.int .u8) _ Ao21 y163.length y163 := (Kd.Q_reads' HO165.out).2.2; have hcut23 := cut_to (P := Try.prog) 27 5 .i64 Try.underlying27 hi023 Ao21 y163.length co21 (l1.length : Int) (of_decide_eq_true (by first | (with_reducible assumption) | assumption)) q23 hroom23; have hr23 := Kd.C_take (m := ((l1.length : Int) : Int).toNat) hC23 (by omega); have hy23 : y173.length = ((l1.length : Int) : Int).toNat := (by rw [Ny173.out, List.length_take]; omega); rw [← Ny173.out] at hr23; rw [← hy23] at hcut23; have HR176 := Aside0.mk hr23; have HC176 := Aside0.mk (show y173.length ≤ co21 from by omega); clear hr23 hC23 hroom23 hi023 hsz23; have KY23 := Aside0.mk hy23; clear hy23; have KL23 := Aside0.mk (show ((l1.length : Int) : Int).toNat ≤ y163.length from by omega); replace q23 := eq_true q23) | ((with_reducible refine gate_callee (f := 10) rfl ?_); refine goesL_ (some 35) rfl rfl Try.func10 (by kernel_rfl) rfl #[.slice Ao21 y173.length co21, .int .i64 (wrap64 (a0))] rfl (by (try simp only [List.map_toArray, List.map_cons, List.map_nil]); first | done | rfl | (simp only [List.length_drop, List.length_take]; rfl)) ?_; (with_reducible refine (vint_PutInt.calls k _ _ y173 (wrap64 (a0)) t177 _ ?side1 ?side2 A13.out).mono ?_); (case side1 => repeat (first | exact (by repeat (first | (with_reducible exact HR176.out) | (with_reducible refine Kd.C_alloc ?_ _) | (with_reducible refine Kd.C_drewN ?_ _) | (with_reducible refine Kd.C_drew ?_) | exact HR176.out)) | (with_reducible refine Kd.C_alloc ?_ _) | (with_reducible refine Kd.C_drewN ?_ _) | (with_reducible refine Kd.C_drew ?_))); (case side2 => exact HC176.out); rintro e w24 ⟨v178, rfl, ho0, hb⟩; refine ⟨_, rfl, ?_⟩; have n0_ := Aside0.mk (Kd.Q_elder' (by (with_reducible repeat (first | apply Kd.Q_alloc | apply Kd.Q_drewN | apply Kd.Q_drew)); exact HO165.out) (Kd.R_base ho0) hb); have n1_ := Aside0.mk (Kd.R_elder' (by (with_reducible repeat (first | apply Kd.R_alloc | apply Kd.R_drewN | apply Kd.R_drew)); exact HO172.out) (Kd.R_base ho0) hb); have n2_ := Aside0.mk (Kd.R_lower (Kd.R_new' (Kd.R_new' ho0 (Kd.Q_lt (by (with_reducible repeat (first | apply Kd.Q_alloc | apply Kd.Q_drewN | apply Kd.Q_drew)); exact HO165.out))) (Kd.R_lt (by (with_reducible repeat (first | apply Kd.R_alloc | apply Kd.R_drewN | apply Kd.R_drew)); exact HO172.out))) (below_size (by repeat (first | (with_reducible first | exact HB.out | apply below_alloc | apply pw_below_drewN | apply below_drew1) | exact HB.out)))); have n3_ := Aside0.mk (Kd.C_below (by repeat (first | (with_reducible exact HR169.out) | (with_reducible refine Kd.C_alloc ?_ _) | (with_reducible refine Kd.C_drewN ?_ _) | (with_reducible refine Kd.C_drew ?_) | exact HR169.out)) hb); have n4_ := Aside0.mk (Kd.C_below (by repeat (first | (with_reducible exact HR176.out) | (with_reducible refine Kd.C_alloc ?_ _) | (with_reducible refine Kd.C_drewN ?_ _) | (with_reducible refine Kd.C_drew ?_) | exact HR176.out)) hb); have n5_ := Aside0.mk (below_step (by repeat (first | (with_reducible first | exact HB.out | apply below_alloc | apply pw_below_drewN | apply below_drew1) | exact HB.out)) hb); clear HO165; clear HO172; clear HR169; clear HR176; clear HB; have HO165 := n0_; have HO172 := n1_; have HO179 := n2_; have HR169 := n3_; have HR176 := n4_; have HB := n5_; clear n0_ n1_ n2_ n3_ n4_ n5_; (try clear hb); (try clear hb2); (try clear hk); (try clear hi); (try clear ho0)))
 (try simp only [Act.put, List.setIfInBounds_toArray, List.set_cons_zero, List.set_cons_succ])
 go_cut [65] (fun v65 wc => ∃ (kq : Nat) (x65_13 : Bool), v65 = .bool x65_13 ∧ Aside0 (ferrulelaw4_VintPuts.j0 kq a0 l1 l2 t170 t177 x65_13 = some r) ∧ Aside0 (kq ≤ k) ∧ Aside0 (Kd.R (Kd.int .u8) 5 wc w.heap.size (fun k_ => some k_ ≠ (v178 : Value).ownBlock) v171 t170) ∧ Aside0 (Kd.R (Kd.int .u8) 5 wc w.heap.size (fun k_ => some k_ ≠ (v171 : Value).ownBlock) v178 t177) ∧ Aside0 (Below w.heap.size w wc))
 case first =>
  have H := HC14.out
  clear HC14
  replace H := Option.bind_eq_some_iff.mp H
  obtain ⟨t180, A250, H⟩ := H
  replace H : (if (strOfNums l1).size + (strOfNums t180).size ≤ 9223372036854775807 then (if (strOfNums t170).toList = ((strOfNums l1) ++ (strOfNums t180)).toList then ((ferruleref4_Of.f (wrap64 (a0))).bind fun t183 => ((ferruleref4_Put.f k t183).bind fun t184 => (if (strOfNums l1).size + (strOfNums t184).size ≤ 9223372036854775807 then (if (strOfNums t177).toList = ((strOfNums l1) ++ (strOfNums t184)).toList then (if (strOfNums l1).size + 1 ≤ 9223372036854775807 then (ferrulelaw4_VintPuts.j0 k a0 l1 l2 t170 t177 ((strOfNums y163).toList != ((strOfNums l1) ++ (⟨#[9]⟩ : ByteArray)).toList)) else (none)) else (ferrulelaw4_VintPuts.j0 k a0 l1 l2 t170 t177 true)) else (none)))) else (ferrulelaw4_VintPuts.j0 k a0 l1 l2 t170 t177 true)) else (none)) = some r := H
  have A25 := Aside0.mk A250
  clear A250
  by_cases c26 : (strOfNums l1).size + (strOfNums t180).size ≤ 9223372036854775807
  {
  rw [if_pos c26] at H
  have c26b0 := eq_true c26
  have c26b1 : decide ((strOfNums l1).size + (strOfNums t180).size ≤ 9223372036854775807) = true := decide_eq_true c26
  try have c26b2 : (9223372036854775807 < (strOfNums l1).size + (strOfNums t180).size) = False := eq_false (Nat.not_lt.2 c26)
  by_cases c27 : (strOfNums t170).toList = ((strOfNums l1) ++ (strOfNums t180)).toList
  {
  rw [if_pos c27] at H
  have c27b0 : ((strOfNums t170).toList == ((strOfNums l1) ++ (strOfNums t180)).toList) = true := beq_iff_eq.mpr c27
  have c27b1 : ((strOfNums t170).toList != ((strOfNums l1) ++ (strOfNums t180)).toList) = false := bne_eq_false_iff_eq.mpr c27
  clear c27
  (first | rw [c27b0] | (simp only [i64_w, i32_w]; rw [c27b0]) | skip)
  replace H := Option.bind_eq_some_iff.mp H
  obtain ⟨t183, A280, H⟩ := H
  replace H : ((ferruleref4_Put.f k t183).bind fun t184 => (if (strOfNums l1).size + (strOfNums t184).size ≤ 9223372036854775807 then (if (strOfNums t177).toList = ((strOfNums l1) ++ (strOfNums t184)).toList then (if (strOfNums l1).size + 1 ≤ 9223372036854775807 then (ferrulelaw4_VintPuts.j0 k a0 l1 l2 t170 t177 ((strOfNums y163).toList != ((strOfNums l1) ++ (⟨#[9]⟩ : ByteArray)).toList)) else (none)) else (ferrulelaw4_VintPuts.j0 k a0 l1 l2 t170 t177 true)) else (none))) = some r := H
  have A28 := Aside0.mk A280
  clear A280
  replace H := Option.bind_eq_some_iff.mp H
  obtain ⟨t184, A290, H⟩ := H
  replace H : (if (strOfNums l1).size + (strOfNums t184).size ≤ 9223372036854775807 then (if (strOfNums t177).toList = ((strOfNums l1) ++ (strOfNums t184)).toList then (if (strOfNums l1).size + 1 ≤ 9223372036854775807 then (ferrulelaw4_VintPuts.j0 k a0 l1 l2 t170 t177 ((strOfNums y163).toList != ((strOfNums l1) ++ (⟨#[9]⟩ : ByteArray)).toList)) else (none)) else (ferrulelaw4_VintPuts.j0 k a0 l1 l2 t170 t177 true)) else (none)) = some r := H
  have A29 := Aside0.mk A290
  clear A290
  by_cases c30 : (strOfNums l1).size + (strOfNums t184).size ≤ 9223372036854775807
  {
  rw [if_pos c30] at H
  have c30b0 := eq_true c30
  have c30b1 : decide ((strOfNums l1).size + (strOfNums t184).size ≤ 9223372036854775807) = true := decide_eq_true c30
  try have c30b2 : (9223372036854775807 < (strOfNums l1).size + (strOfNums t184).size) = False := eq_false (Nat.not_lt.2 c30)
  by_cases c31 : (strOfNums t177).toList = ((strOfNums l1) ++ (strOfNums t184)).toList
  {
  rw [if_pos c31] at H
  have c31b0 : ((strOfNums t177).toList == ((strOfNums l1) ++ (strOfNums t184)).toList) = true := beq_iff_eq.mpr c31
  have c31b1 : ((strOfNums t177).toList != ((strOfNums l1) ++ (strOfNums t184)).toList) = false := bne_eq_false_iff_eq.mpr c31
  clear c31
  by_cases c32 : (strOfNums l1).size + 1 ≤ 9223372036854775807
  {
  rw [if_pos c32] at H
  have c32b0 := eq_true c32
  have c32b1 : decide ((strOfNums l1).size + 1 ≤ 9223372036854775807) = true := decide_eq_true c32
  try have c32b2 : (9223372036854775807 < (strOfNums l1).size + 1) = False := eq_false (Nat.not_lt.2 c32)
  have H' := Aside0.mk H
  clear H
  try go_wp2
  have n0_ := Aside0.mk (Kd.Q_drew HO165.out)
  have n1_ := Aside0.mk (Kd.R_drew HO172.out)
  have n2_ := Aside0.mk (Kd.R_drew HO179.out)
  have n3_ := Aside0.mk (Kd.C_drew HR169.out)
  have n4_ := Aside0.mk (Kd.C_drew HR176.out)
  have n5_ := Aside0.mk (below_drew1 HB.out)
  clear HO165
  clear HO172
  clear HO179
  clear HR169
  clear HR176
  clear HB
  have HO165 := n0_
  have HO172 := n1_
  have HO179 := n2_
  have HR169 := n3_
  have HR176 := n4_
  have HB := n5_
  clear n0_ n1_ n2_ n3_ n4_ n5_
  refine start_ (n := 30) (S := fun w' => True) (ds := []) #[false, false, false, false, false, false, false, false, false, false, false, false, false, false, false, false, false, false, false, false, false, false, false, false, false, false, false, false, false, false] (by kernel_rfl) rfl rfl trivial (fun hHeld => ?_); refine with_tabW ferrulelaw4_VintPuts.tab6 ferrulelaw4_VintPuts.bits6 (fun HT_ HW_ => ?_)
  generalize w24.drew = w33 at HO165 HO172 HO179 HR169 HR176 HB hHeld ⊢
  refine pure_ (i := 0) (N := some 36) (v := ?_) (a' := ?_) #[true, false, false, false, false, false, false, false, false, false, false, false, false, false, false, false, false, false, false, false, false, false, false, false, false, false, false, false, false, false] rfl rfl (any_of HT_.out (by kernel_rfl)) (fun _ _ _ h => h) (Or.inl ⟨by rfl, ?_⟩) ?_ ?_
  rotate_left
  {
  intro w'
  go_simp
  with_reducible rfl
  }
  rotate_left
  {
  simp only [Act.put, List.setIfInBounds_toArray, List.set_cons_zero, List.set_cons_succ, i64_w, i32_w]
  rfl
  }
  refine pure_ (i := 2) (N := some 38) (v := ?_) (a' := ?_) #[true, false, true, false, false, false, false, false, false, false, false, false, false, false, false, false, false, false, false, false, false, false, false, false, false, false, false, false, false, false] rfl rfl (any_of HT_.out (by kernel_rfl)) (fun _ _ _ h => h) (Or.inl ⟨by rfl, ?_⟩) ?_ ?_
  rotate_left
  {
  intro w'
  go_simp
  with_reducible rfl
  }
  rotate_left
  {
  simp only [Act.put, List.setIfInBounds_toArray, List.set_cons_zero, List.set_cons_succ, i64_w, i32_w]
  rfl
  }
  refine pure_ (i := 4) (N := some 40) (v := ?_) (a' := ?_) #[true, false, true, false, true, false, false, false, false, false, false, false, false, false, false, false, false, false, false, false, false, false, false, false, false, false, false, false, false, false] rfl rfl (any_of HT_.out (by kernel_rfl)) (fun _ _ _ h => h) (Or.inl ⟨by rfl, ?_⟩) ?_ ?_
  rotate_left
  {
  intro w'
  go_simp
  with_reducible rfl
  }
  rotate_left
  {
  simp only [Act.put, List.setIfInBounds_toArray, List.set_cons_zero, List.set_cons_succ, i64_w, i32_w]
  rfl
  }
  refine join_ (σ := Value × Value) 2 #[true, true, true, true, true, true, true, true, true, true, true, true, true, true, true, true, true, true, true, true, true, true, true, true, true, true, true, true, false, false] (fun s_ => [(37, .string (strOfNums t170)), (39, .string (strOfNums l1)), (41, s_.1), (42, .string (strOfNums t180)), (47, .string (strOfNums t177)), (49, .string (strOfNums l1)), (52, .int .u64 t183), (53, s_.2), (54, .string (strOfNums t184)), (60, .string (strOfNums y163)), (62, .string (strOfNums l1)), (43, .string ((strOfNums l1) ++ (strOfNums t180))), (44, .bool false), (45, .bool false), (46, v178), (48, .slice A1 l1.length c1), (50, .int .u64 a0), (51, .int .i64 (wrap64 (a0))), (55, .string ((strOfNums l1) ++ (strOfNums t184))), (56, .bool false), (57, .bool false), (58, .bool false), (59, .slice Ao21 y163.length co21), (61, .slice A1 l1.length c1), (63, .string ((strOfNums l1) ++ (⟨#[9]⟩ : ByteArray)))]) (fun s_ w' => (Kd.Q (Kd.int .u8) 5 w' w.heap.size (fun k_ => some k_ ≠ (v171 : Value).ownBlock ∧ some k_ ≠ (v178 : Value).ownBlock ∧ some k_ ≠ (s_.1 : Value).ownBlock ∧ some k_ ≠ (s_.2 : Value).ownBlock) (.slice Ao21 y163.length co21) y163) ∧ (Kd.R (Kd.int .u8) 5 w' w.heap.size (fun k_ => some k_ ≠ (.slice Ao21 y163.length co21 : Value).ownBlock ∧ some k_ ≠ (v178 : Value).ownBlock ∧ some k_ ≠ (s_.1 : Value).ownBlock ∧ some k_ ≠ (s_.2 : Value).ownBlock) v171 t170) ∧ (Kd.R (Kd.int .u8) 5 w' w.heap.size (fun k_ => some k_ ≠ (.slice Ao21 y163.length co21 : Value).ownBlock ∧ some k_ ≠ (v171 : Value).ownBlock ∧ some k_ ≠ (s_.1 : Value).ownBlock ∧ some k_ ≠ (s_.2 : Value).ownBlock) v178 t177) ∧ (Kd.R (Kd.int .u8) 5 w' w.heap.size (fun k_ => some k_ ≠ (.slice Ao21 y163.length co21 : Value).ownBlock ∧ some k_ ≠ (v171 : Value).ownBlock ∧ some k_ ≠ (v178 : Value).ownBlock ∧ some k_ ≠ (s_.2 : Value).ownBlock) s_.1 t180) ∧ (Kd.R (Kd.int .u8) 5 w' w.heap.size (fun k_ => some k_ ≠ (.slice Ao21 y163.length co21 : Value).ownBlock ∧ some k_ ≠ (v171 : Value).ownBlock ∧ some k_ ≠ (v178 : Value).ownBlock ∧ some k_ ≠ (s_.1 : Value).ownBlock) s_.2 t184) ∧ (Below w.heap.size w w')) ?_ ?_
  rotate_left
  {
  intro hJ1_3_5_6_11_13_16_17_18_24_26
  refine join_ (σ := Value × Value) 4 #[true, true, true, true, true, true, true, true, true, true, true, true, true, true, true, true, true, true, true, true, true, true, true, true, true, true, false, false, false, false] (fun s_ => [(37, .string (strOfNums t170)), (39, .string (strOfNums l1)), (41, s_.1), (42, .string (strOfNums t180)), (47, .string (strOfNums t177)), (49, .string (strOfNums l1)), (52, .int .u64 t183), (53, s_.2), (54, .string (strOfNums t184)), (60, .string (strOfNums y163)), (43, .string ((strOfNums l1) ++ (strOfNums t180))), (44, .bool false), (45, .bool false), (46, v178), (48, .slice A1 l1.length c1), (50, .int .u64 a0), (51, .int .i64 (wrap64 (a0))), (55, .string ((strOfNums l1) ++ (strOfNums t184))), (56, .bool false), (57, .bool false), (58, .bool false), (59, .slice Ao21 y163.length co21), (61, .slice A1 l1.length c1)]) (fun s_ w' => (Kd.Q (Kd.int .u8) 5 w' w.heap.size (fun k_ => some k_ ≠ (v171 : Value).ownBlock ∧ some k_ ≠ (v178 : Value).ownBlock ∧ some k_ ≠ (s_.1 : Value).ownBlock ∧ some k_ ≠ (s_.2 : Value).ownBlock) (.slice Ao21 y163.length co21) y163) ∧ (Kd.R (Kd.int .u8) 5 w' w.heap.size (fun k_ => some k_ ≠ (.slice Ao21 y163.length co21 : Value).ownBlock ∧ some k_ ≠ (v178 : Value).ownBlock ∧ some k_ ≠ (s_.1 : Value).ownBlock ∧ some k_ ≠ (s_.2 : Value).ownBlock) v171 t170) ∧ (Kd.R (Kd.int .u8) 5 w' w.heap.size (fun k_ => some k_ ≠ (.slice Ao21 y163.length co21 : Value).ownBlock ∧ some k_ ≠ (v171 : Value).ownBlock ∧ some k_ ≠ (s_.1 : Value).ownBlock ∧ some k_ ≠ (s_.2 : Value).ownBlock) v178 t177) ∧ (Kd.R (Kd.int .u8) 5 w' w.heap.size (fun k_ => some k_ ≠ (.slice Ao21 y163.length co21 : Value).ownBlock ∧ some k_ ≠ (v171 : Value).ownBlock ∧ some k_ ≠ (v178 : Value).ownBlock ∧ some k_ ≠ (s_.2 : Value).ownBlock) s_.1 t180) ∧ (Kd.R (Kd.int .u8) 5 w' w.heap.size (fun k_ => some k_ ≠ (.slice Ao21 y163.length co21 : Value).ownBlock ∧ some k_ ≠ (v171 : Value).ownBlock ∧ some k_ ≠ (v178 : Value).ownBlock ∧ some k_ ≠ (s_.1 : Value).ownBlock) s_.2 t184) ∧ (Below w.heap.size w w')) ?_ ?_
  rotate_left
  {
  intro hJ1_3_5_6_11_13_16_17_18_24
  refine join_ (σ := Value × Value) 3 #[true, true, true, true, true, true, true, true, true, true, true, true, true, true, true, true, true, true, true, true, true, true, true, true, false, true, true, true, false, false] (fun s_ => [(37, .string (strOfNums t170)), (39, .string (strOfNums l1)), (41, s_.1), (42, .string (strOfNums t180)), (47, .string (strOfNums t177)), (49, .string (strOfNums l1)), (52, .int .u64 t183), (53, s_.2), (54, .string (strOfNums t184)), (62, .string (strOfNums l1)), (43, .string ((strOfNums l1) ++ (strOfNums t180))), (44, .bool false), (45, .bool false), (46, v178), (48, .slice A1 l1.length c1), (50, .int .u64 a0), (51, .int .i64 (wrap64 (a0))), (55, .string ((strOfNums l1) ++ (strOfNums t184))), (56, .bool false), (57, .bool false), (58, .bool false), (59, .slice Ao21 y163.length co21), (61, .slice A1 l1.length c1), (63, .string ((strOfNums l1) ++ (⟨#[9]⟩ : ByteArray)))]) (fun s_ w' => (Kd.Q (Kd.int .u8) 5 w' w.heap.size (fun k_ => some k_ ≠ (v171 : Value).ownBlock ∧ some k_ ≠ (v178 : Value).ownBlock ∧ some k_ ≠ (s_.1 : Value).ownBlock ∧ some k_ ≠ (s_.2 : Value).ownBlock) (.slice Ao21 y163.length co21) y163) ∧ (Kd.R (Kd.int .u8) 5 w' w.heap.size (fun k_ => some k_ ≠ (.slice Ao21 y163.length co21 : Value).ownBlock ∧ some k_ ≠ (v178 : Value).ownBlock ∧ some k_ ≠ (s_.1 : Value).ownBlock ∧ some k_ ≠ (s_.2 : Value).ownBlock) v171 t170) ∧ (Kd.R (Kd.int .u8) 5 w' w.heap.size (fun k_ => some k_ ≠ (.slice Ao21 y163.length co21 : Value).ownBlock ∧ some k_ ≠ (v171 : Value).ownBlock ∧ some k_ ≠ (s_.1 : Value).ownBlock ∧ some k_ ≠ (s_.2 : Value).ownBlock) v178 t177) ∧ (Kd.R (Kd.int .u8) 5 w' w.heap.size (fun k_ => some k_ ≠ (.slice Ao21 y163.length co21 : Value).ownBlock ∧ some k_ ≠ (v171 : Value).ownBlock ∧ some k_ ≠ (v178 : Value).ownBlock ∧ some k_ ≠ (s_.2 : Value).ownBlock) s_.1 t180) ∧ (Kd.R (Kd.int .u8) 5 w' w.heap.size (fun k_ => some k_ ≠ (.slice Ao21 y163.length co21 : Value).ownBlock ∧ some k_ ≠ (v171 : Value).ownBlock ∧ some k_ ≠ (v178 : Value).ownBlock ∧ some k_ ≠ (s_.1 : Value).ownBlock) s_.2 t184) ∧ (Below w.heap.size w w')) ?_ ?_
  rotate_left
  {
  intro hJ1_3_5_6_11_13_16_17_18_26
  refine join_ (σ := Value × Value) 5 #[true, true, true, true, true, true, true, true, true, true, true, true, true, true, true, true, true, true, true, true, true, true, true, true, false, true, false, false, false, false] (fun s_ => [(37, .string (strOfNums t170)), (39, .string (strOfNums l1)), (41, s_.1), (42, .string (strOfNums t180)), (47, .string (strOfNums t177)), (49, .string (strOfNums l1)), (52, .int .u64 t183), (53, s_.2), (54, .string (strOfNums t184)), (43, .string ((strOfNums l1) ++ (strOfNums t180))), (44, .bool false), (45, .bool false), (46, v178), (48, .slice A1 l1.length c1), (50, .int .u64 a0), (51, .int .i64 (wrap64 (a0))), (55, .string ((strOfNums l1) ++ (strOfNums t184))), (56, .bool false), (57, .bool false), (58, .bool false), (59, .slice Ao21 y163.length co21), (61, .slice A1 l1.length c1)]) (fun s_ w' => (Kd.Q (Kd.int .u8) 5 w' w.heap.size (fun k_ => some k_ ≠ (v171 : Value).ownBlock ∧ some k_ ≠ (v178 : Value).ownBlock ∧ some k_ ≠ (s_.1 : Value).ownBlock ∧ some k_ ≠ (s_.2 : Value).ownBlock) (.slice Ao21 y163.length co21) y163) ∧ (Kd.R (Kd.int .u8) 5 w' w.heap.size (fun k_ => some k_ ≠ (.slice Ao21 y163.length co21 : Value).ownBlock ∧ some k_ ≠ (v178 : Value).ownBlock ∧ some k_ ≠ (s_.1 : Value).ownBlock ∧ some k_ ≠ (s_.2 : Value).ownBlock) v171 t170) ∧ (Kd.R (Kd.int .u8) 5 w' w.heap.size (fun k_ => some k_ ≠ (.slice Ao21 y163.length co21 : Value).ownBlock ∧ some k_ ≠ (v171 : Value).ownBlock ∧ some k_ ≠ (s_.1 : Value).ownBlock ∧ some k_ ≠ (s_.2 : Value).ownBlock) v178 t177) ∧ (Kd.R (Kd.int .u8) 5 w' w.heap.size (fun k_ => some k_ ≠ (.slice Ao21 y163.length co21 : Value).ownBlock ∧ some k_ ≠ (v171 : Value).ownBlock ∧ some k_ ≠ (v178 : Value).ownBlock ∧ some k_ ≠ (s_.2 : Value).ownBlock) s_.1 t180) ∧ (Kd.R (Kd.int .u8) 5 w' w.heap.size (fun k_ => some k_ ≠ (.slice Ao21 y163.length co21 : Value).ownBlock ∧ some k_ ≠ (v171 : Value).ownBlock ∧ some k_ ≠ (v178 : Value).ownBlock ∧ some k_ ≠ (s_.1 : Value).ownBlock) s_.2 t184) ∧ (Below w.heap.size w w')) ?_ ?_
  rotate_left
  {
  intro hJ1_3_5_6_11_13_16_17_18
  refine join_ (σ := Value × Value) 12 #[true, true, true, true, true, true, true, true, true, true, true, true, true, true, true, true, true, true, false, false, false, false, false, false, false, false, false, false, false, false] (fun s_ => [(37, .string (strOfNums t170)), (39, .string (strOfNums l1)), (41, s_.1), (42, .string (strOfNums t180)), (47, .string (strOfNums t177)), (49, .string (strOfNums l1)), (52, .int .u64 t183), (53, s_.2), (43, .string ((strOfNums l1) ++ (strOfNums t180))), (44, .bool false), (45, .bool false), (46, v178), (48, .slice A1 l1.length c1), (50, .int .u64 a0), (51, .int .i64 (wrap64 (a0)))]) (fun s_ w' => (Kd.Q (Kd.int .u8) 5 w' w.heap.size (fun k_ => some k_ ≠ (v171 : Value).ownBlock ∧ some k_ ≠ (v178 : Value).ownBlock ∧ some k_ ≠ (s_.1 : Value).ownBlock ∧ some k_ ≠ (s_.2 : Value).ownBlock) (.slice Ao21 y163.length co21) y163) ∧ (Kd.R (Kd.int .u8) 5 w' w.heap.size (fun k_ => some k_ ≠ (.slice Ao21 y163.length co21 : Value).ownBlock ∧ some k_ ≠ (v178 : Value).ownBlock ∧ some k_ ≠ (s_.1 : Value).ownBlock ∧ some k_ ≠ (s_.2 : Value).ownBlock) v171 t170) ∧ (Kd.R (Kd.int .u8) 5 w' w.heap.size (fun k_ => some k_ ≠ (.slice Ao21 y163.length co21 : Value).ownBlock ∧ some k_ ≠ (v171 : Value).ownBlock ∧ some k_ ≠ (s_.1 : Value).ownBlock ∧ some k_ ≠ (s_.2 : Value).ownBlock) v178 t177) ∧ (Kd.R (Kd.int .u8) 5 w' w.heap.size (fun k_ => some k_ ≠ (.slice Ao21 y163.length co21 : Value).ownBlock ∧ some k_ ≠ (v171 : Value).ownBlock ∧ some k_ ≠ (v178 : Value).ownBlock ∧ some k_ ≠ (s_.2 : Value).ownBlock) s_.1 t180) ∧ (Kd.R (Kd.int .u8) 5 w' w.heap.size (fun k_ => some k_ ≠ (.slice Ao21 y163.length co21 : Value).ownBlock ∧ some k_ ≠ (v171 : Value).ownBlock ∧ some k_ ≠ (v178 : Value).ownBlock ∧ some k_ ≠ (s_.1 : Value).ownBlock) s_.2 t184) ∧ (Below w.heap.size w w')) ?_ ?_
  rotate_left
  {
  intro hJ1_3_5_6_11_13_16_17
  refine join_ (σ := Value × Value) 12 #[true, true, true, true, true, true, true, true, true, true, true, true, true, false, true, true, true, true, true, false, false, false, false, false, false, false, false, false, false, false] (fun s_ => [(37, .string (strOfNums t170)), (39, .string (strOfNums l1)), (41, s_.1), (42, .string (strOfNums t180)), (47, .string (strOfNums t177)), (52, .int .u64 t183), (53, s_.2), (54, .string (strOfNums t184)), (43, .string ((strOfNums l1) ++ (strOfNums t180))), (44, .bool false), (45, .bool false), (46, v178), (48, .slice A1 l1.length c1), (50, .int .u64 a0), (51, .int .i64 (wrap64 (a0)))]) (fun s_ w' => (Kd.Q (Kd.int .u8) 5 w' w.heap.size (fun k_ => some k_ ≠ (v171 : Value).ownBlock ∧ some k_ ≠ (v178 : Value).ownBlock ∧ some k_ ≠ (s_.1 : Value).ownBlock ∧ some k_ ≠ (s_.2 : Value).ownBlock) (.slice Ao21 y163.length co21) y163) ∧ (Kd.R (Kd.int .u8) 5 w' w.heap.size (fun k_ => some k_ ≠ (.slice Ao21 y163.length co21 : Value).ownBlock ∧ some k_ ≠ (v178 : Value).ownBlock ∧ some k_ ≠ (s_.1 : Value).ownBlock ∧ some k_ ≠ (s_.2 : Value).ownBlock) v171 t170) ∧ (Kd.R (Kd.int .u8) 5 w' w.heap.size (fun k_ => some k_ ≠ (.slice Ao21 y163.length co21 : Value).ownBlock ∧ some k_ ≠ (v171 : Value).ownBlock ∧ some k_ ≠ (s_.1 : Value).ownBlock ∧ some k_ ≠ (s_.2 : Value).ownBlock) v178 t177) ∧ (Kd.R (Kd.int .u8) 5 w' w.heap.size (fun k_ => some k_ ≠ (.slice Ao21 y163.length co21 : Value).ownBlock ∧ some k_ ≠ (v171 : Value).ownBlock ∧ some k_ ≠ (v178 : Value).ownBlock ∧ some k_ ≠ (s_.2 : Value).ownBlock) s_.1 t180) ∧ (Kd.R (Kd.int .u8) 5 w' w.heap.size (fun k_ => some k_ ≠ (.slice Ao21 y163.length co21 : Value).ownBlock ∧ some k_ ≠ (v171 : Value).ownBlock ∧ some k_ ≠ (v178 : Value).ownBlock ∧ some k_ ≠ (s_.1 : Value).ownBlock) s_.2 t184) ∧ (Below w.heap.size w w')) ?_ ?_
  rotate_left
  {
  intro hJ1_3_5_6_11_16_17_18
  refine join_ (σ := Value × Value) 11 #[true, true, true, true, true, true, true, true, true, true, true, false, true, true, true, true, true, true, true, true, false, false, false, false, false, false, false, false, false, false] (fun s_ => [(37, .string (strOfNums t170)), (39, .string (strOfNums l1)), (41, s_.1), (42, .string (strOfNums t180)), (49, .string (strOfNums l1)), (52, .int .u64 t183), (53, s_.2), (54, .string (strOfNums t184)), (43, .string ((strOfNums l1) ++ (strOfNums t180))), (44, .bool false), (45, .bool false), (46, v178), (48, .slice A1 l1.length c1), (50, .int .u64 a0), (51, .int .i64 (wrap64 (a0))), (55, .string ((strOfNums l1) ++ (strOfNums t184)))]) (fun s_ w' => (Kd.Q (Kd.int .u8) 5 w' w.heap.size (fun k_ => some k_ ≠ (v171 : Value).ownBlock ∧ some k_ ≠ (v178 : Value).ownBlock ∧ some k_ ≠ (s_.1 : Value).ownBlock ∧ some k_ ≠ (s_.2 : Value).ownBlock) (.slice Ao21 y163.length co21) y163) ∧ (Kd.R (Kd.int .u8) 5 w' w.heap.size (fun k_ => some k_ ≠ (.slice Ao21 y163.length co21 : Value).ownBlock ∧ some k_ ≠ (v178 : Value).ownBlock ∧ some k_ ≠ (s_.1 : Value).ownBlock ∧ some k_ ≠ (s_.2 : Value).ownBlock) v171 t170) ∧ (Kd.R (Kd.int .u8) 5 w' w.heap.size (fun k_ => some k_ ≠ (.slice Ao21 y163.length co21 : Value).ownBlock ∧ some k_ ≠ (v171 : Value).ownBlock ∧ some k_ ≠ (s_.1 : Value).ownBlock ∧ some k_ ≠ (s_.2 : Value).ownBlock) v178 t177) ∧ (Kd.R (Kd.int .u8) 5 w' w.heap.size (fun k_ => some k_ ≠ (.slice Ao21 y163.length co21 : Value).ownBlock ∧ some k_ ≠ (v171 : Value).ownBlock ∧ some k_ ≠ (v178 : Value).ownBlock ∧ some k_ ≠ (s_.2 : Value).ownBlock) s_.1 t180) ∧ (Kd.R (Kd.int .u8) 5 w' w.heap.size (fun k_ => some k_ ≠ (.slice Ao21 y163.length co21 : Value).ownBlock ∧ some k_ ≠ (v171 : Value).ownBlock ∧ some k_ ≠ (v178 : Value).ownBlock ∧ some k_ ≠ (s_.1 : Value).ownBlock) s_.2 t184) ∧ (Below w.heap.size w w')) ?_ ?_
  rotate_left
  {
  intro hJ1_3_5_6_13_16_17_18
  refine join_ (σ := Value) 13 #[true, true, true, true, true, true, true, true, true, true, true, true, true, true, true, true, true, false, false, false, false, false, false, false, false, false, false, false, false, false] (fun s_ => [(37, .string (strOfNums t170)), (39, .string (strOfNums l1)), (41, s_), (42, .string (strOfNums t180)), (47, .string (strOfNums t177)), (49, .string (strOfNums l1)), (52, .int .u64 t183), (43, .string ((strOfNums l1) ++ (strOfNums t180))), (44, .bool false), (45, .bool false), (46, v178), (48, .slice A1 l1.length c1), (50, .int .u64 a0), (51, .int .i64 (wrap64 (a0)))]) (fun s_ w' => (Kd.Q (Kd.int .u8) 5 w' w.heap.size (fun k_ => some k_ ≠ (v171 : Value).ownBlock ∧ some k_ ≠ (v178 : Value).ownBlock ∧ some k_ ≠ (s_ : Value).ownBlock) (.slice Ao21 y163.length co21) y163) ∧ (Kd.R (Kd.int .u8) 5 w' w.heap.size (fun k_ => some k_ ≠ (.slice Ao21 y163.length co21 : Value).ownBlock ∧ some k_ ≠ (v178 : Value).ownBlock ∧ some k_ ≠ (s_ : Value).ownBlock) v171 t170) ∧ (Kd.R (Kd.int .u8) 5 w' w.heap.size (fun k_ => some k_ ≠ (.slice Ao21 y163.length co21 : Value).ownBlock ∧ some k_ ≠ (v171 : Value).ownBlock ∧ some k_ ≠ (s_ : Value).ownBlock) v178 t177) ∧ (Kd.R (Kd.int .u8) 5 w' w.heap.size (fun k_ => some k_ ≠ (.slice Ao21 y163.length co21 : Value).ownBlock ∧ some k_ ≠ (v171 : Value).ownBlock ∧ some k_ ≠ (v178 : Value).ownBlock) s_ t180) ∧ (Below w.heap.size w w')) ?_ ?_
  rotate_left
  {
  intro hJ1_3_5_6_11_13_16
  refine join_ (σ := Value × Value) 13 #[true, true, true, true, true, true, true, true, true, true, true, true, true, false, true, true, true, true, false, false, false, false, false, false, false, false, false, false, false, false] (fun s_ => [(37, .string (strOfNums t170)), (39, .string (strOfNums l1)), (41, s_.1), (42, .string (strOfNums t180)), (47, .string (strOfNums t177)), (52, .int .u64 t183), (53, s_.2), (43, .string ((strOfNums l1) ++ (strOfNums t180))), (44, .bool false), (45, .bool false), (46, v178), (48, .slice A1 l1.length c1), (50, .int .u64 a0), (51, .int .i64 (wrap64 (a0)))]) (fun s_ w' => (Kd.Q (Kd.int .u8) 5 w' w.heap.size (fun k_ => some k_ ≠ (v171 : Value).ownBlock ∧ some k_ ≠ (v178 : Value).ownBlock ∧ some k_ ≠ (s_.1 : Value).ownBlock ∧ some k_ ≠ (s_.2 : Value).ownBlock) (.slice Ao21 y163.length co21) y163) ∧ (Kd.R (Kd.int .u8) 5 w' w.heap.size (fun k_ => some k_ ≠ (.slice Ao21 y163.length co21 : Value).ownBlock ∧ some k_ ≠ (v178 : Value).ownBlock ∧ some k_ ≠ (s_.1 : Value).ownBlock ∧ some k_ ≠ (s_.2 : Value).ownBlock) v171 t170) ∧ (Kd.R (Kd.int .u8) 5 w' w.heap.size (fun k_ => some k_ ≠ (.slice Ao21 y163.length co21 : Value).ownBlock ∧ some k_ ≠ (v171 : Value).ownBlock ∧ some k_ ≠ (s_.1 : Value).ownBlock ∧ some k_ ≠ (s_.2 : Value).ownBlock) v178 t177) ∧ (Kd.R (Kd.int .u8) 5 w' w.heap.size (fun k_ => some k_ ≠ (.slice Ao21 y163.length co21 : Value).ownBlock ∧ some k_ ≠ (v171 : Value).ownBlock ∧ some k_ ≠ (v178 : Value).ownBlock ∧ some k_ ≠ (s_.2 : Value).ownBlock) s_.1 t180) ∧ (Kd.R (Kd.int .u8) 5 w' w.heap.size (fun k_ => some k_ ≠ (.slice Ao21 y163.length co21 : Value).ownBlock ∧ some k_ ≠ (v171 : Value).ownBlock ∧ some k_ ≠ (v178 : Value).ownBlock ∧ some k_ ≠ (s_.1 : Value).ownBlock) s_.2 t184) ∧ (Below w.heap.size w w')) ?_ ?_
  rotate_left
  {
  intro hJ1_3_5_6_11_16_17
  refine join_ (σ := Value × Value) 13 #[true, true, true, true, true, true, true, true, true, true, true, false, true, true, true, true, true, true, false, false, false, false, false, false, false, false, false, false, false, false] (fun s_ => [(37, .string (strOfNums t170)), (39, .string (strOfNums l1)), (41, s_.1), (42, .string (strOfNums t180)), (49, .string (strOfNums l1)), (52, .int .u64 t183), (53, s_.2), (43, .string ((strOfNums l1) ++ (strOfNums t180))), (44, .bool false), (45, .bool false), (46, v178), (48, .slice A1 l1.length c1), (50, .int .u64 a0), (51, .int .i64 (wrap64 (a0)))]) (fun s_ w' => (Kd.Q (Kd.int .u8) 5 w' w.heap.size (fun k_ => some k_ ≠ (v171 : Value).ownBlock ∧ some k_ ≠ (v178 : Value).ownBlock ∧ some k_ ≠ (s_.1 : Value).ownBlock ∧ some k_ ≠ (s_.2 : Value).ownBlock) (.slice Ao21 y163.length co21) y163) ∧ (Kd.R (Kd.int .u8) 5 w' w.heap.size (fun k_ => some k_ ≠ (.slice Ao21 y163.length co21 : Value).ownBlock ∧ some k_ ≠ (v178 : Value).ownBlock ∧ some k_ ≠ (s_.1 : Value).ownBlock ∧ some k_ ≠ (s_.2 : Value).ownBlock) v171 t170) ∧ (Kd.R (Kd.int .u8) 5 w' w.heap.size (fun k_ => some k_ ≠ (.slice Ao21 y163.length co21 : Value).ownBlock ∧ some k_ ≠ (v171 : Value).ownBlock ∧ some k_ ≠ (s_.1 : Value).ownBlock ∧ some k_ ≠ (s_.2 : Value).ownBlock) v178 t177) ∧ (Kd.R (Kd.int .u8) 5 w' w.heap.size (fun k_ => some k_ ≠ (.slice Ao21 y163.length co21 : Value).ownBlock ∧ some k_ ≠ (v171 : Value).ownBlock ∧ some k_ ≠ (v178 : Value).ownBlock ∧ some k_ ≠ (s_.2 : Value).ownBlock) s_.1 t180) ∧ (Kd.R (Kd.int .u8) 5 w' w.heap.size (fun k_ => some k_ ≠ (.slice Ao21 y163.length co21 : Value).ownBlock ∧ some k_ ≠ (v171 : Value).ownBlock ∧ some k_ ≠ (v178 : Value).ownBlock ∧ some k_ ≠ (s_.1 : Value).ownBlock) s_.2 t184) ∧ (Below w.heap.size w w')) ?_ ?_
  rotate_left
  {
  intro hJ1_3_5_6_13_16_17
  refine join_ (σ := Value × Value) 13 #[true, true, true, true, true, true, true, true, true, true, true, false, true, false, true, true, true, true, true, false, false, false, false, false, false, false, false, false, false, false] (fun s_ => [(37, .string (strOfNums t170)), (39, .string (strOfNums l1)), (41, s_.1), (42, .string (strOfNums t180)), (52, .int .u64 t183), (53, s_.2), (54, .string (strOfNums t184)), (43, .string ((strOfNums l1) ++ (strOfNums t180))), (44, .bool false), (45, .bool false), (46, v178), (48, .slice A1 l1.length c1), (50, .int .u64 a0), (51, .int .i64 (wrap64 (a0)))]) (fun s_ w' => (Kd.Q (Kd.int .u8) 5 w' w.heap.size (fun k_ => some k_ ≠ (v171 : Value).ownBlock ∧ some k_ ≠ (v178 : Value).ownBlock ∧ some k_ ≠ (s_.1 : Value).ownBlock ∧ some k_ ≠ (s_.2 : Value).ownBlock) (.slice Ao21 y163.length co21) y163) ∧ (Kd.R (Kd.int .u8) 5 w' w.heap.size (fun k_ => some k_ ≠ (.slice Ao21 y163.length co21 : Value).ownBlock ∧ some k_ ≠ (v178 : Value).ownBlock ∧ some k_ ≠ (s_.1 : Value).ownBlock ∧ some k_ ≠ (s_.2 : Value).ownBlock) v171 t170) ∧ (Kd.R (Kd.int .u8) 5 w' w.heap.size (fun k_ => some k_ ≠ (.slice Ao21 y163.length co21 : Value).ownBlock ∧ some k_ ≠ (v171 : Value).ownBlock ∧ some k_ ≠ (s_.1 : Value).ownBlock ∧ some k_ ≠ (s_.2 : Value).ownBlock) v178 t177) ∧ (Kd.R (Kd.int .u8) 5 w' w.heap.size (fun k_ => some k_ ≠ (.slice Ao21 y163.length co21 : Value).ownBlock ∧ some k_ ≠ (v171 : Value).ownBlock ∧ some k_ ≠ (v178 : Value).ownBlock ∧ some k_ ≠ (s_.2 : Value).ownBlock) s_.1 t180) ∧ (Kd.R (Kd.int .u8) 5 w' w.heap.size (fun k_ => some k_ ≠ (.slice Ao21 y163.length co21 : Value).ownBlock ∧ some k_ ≠ (v171 : Value).ownBlock ∧ some k_ ≠ (v178 : Value).ownBlock ∧ some k_ ≠ (s_.1 : Value).ownBlock) s_.2 t184) ∧ (Below w.heap.size w w')) ?_ ?_
  rotate_left
  {
  intro hJ1_3_5_6_16_17_18
  refine join_ (σ := Value) 14 #[true, true, true, true, true, true, true, true, true, true, true, true, true, true, true, true, false, false, false, false, false, false, false, false, false, false, false, false, false, false] (fun s_ => [(37, .string (strOfNums t170)), (39, .string (strOfNums l1)), (41, s_), (42, .string (strOfNums t180)), (47, .string (strOfNums t177)), (49, .string (strOfNums l1)), (43, .string ((strOfNums l1) ++ (strOfNums t180))), (44, .bool false), (45, .bool false), (46, v178), (48, .slice A1 l1.length c1), (50, .int .u64 a0), (51, .int .i64 (wrap64 (a0)))]) (fun s_ w' => (Kd.Q (Kd.int .u8) 5 w' w.heap.size (fun k_ => some k_ ≠ (v171 : Value).ownBlock ∧ some k_ ≠ (v178 : Value).ownBlock ∧ some k_ ≠ (s_ : Value).ownBlock) (.slice Ao21 y163.length co21) y163) ∧ (Kd.R (Kd.int .u8) 5 w' w.heap.size (fun k_ => some k_ ≠ (.slice Ao21 y163.length co21 : Value).ownBlock ∧ some k_ ≠ (v178 : Value).ownBlock ∧ some k_ ≠ (s_ : Value).ownBlock) v171 t170) ∧ (Kd.R (Kd.int .u8) 5 w' w.heap.size (fun k_ => some k_ ≠ (.slice Ao21 y163.length co21 : Value).ownBlock ∧ some k_ ≠ (v171 : Value).ownBlock ∧ some k_ ≠ (s_ : Value).ownBlock) v178 t177) ∧ (Kd.R (Kd.int .u8) 5 w' w.heap.size (fun k_ => some k_ ≠ (.slice Ao21 y163.length co21 : Value).ownBlock ∧ some k_ ≠ (v171 : Value).ownBlock ∧ some k_ ≠ (v178 : Value).ownBlock) s_ t180) ∧ (Below w.heap.size w w')) ?_ ?_
  rotate_left
  {
  intro hJ1_3_5_6_11_13
  refine join_ (σ := Value) 14 #[true, true, true, true, true, true, true, true, true, true, true, true, true, false, true, true, true, false, false, false, false, false, false, false, false, false, false, false, false, false] (fun s_ => [(37, .string (strOfNums t170)), (39, .string (strOfNums l1)), (41, s_), (42, .string (strOfNums t180)), (47, .string (strOfNums t177)), (52, .int .u64 t183), (43, .string ((strOfNums l1) ++ (strOfNums t180))), (44, .bool false), (45, .bool false), (46, v178), (48, .slice A1 l1.length c1), (50, .int .u64 a0), (51, .int .i64 (wrap64 (a0)))]) (fun s_ w' => (Kd.Q (Kd.int .u8) 5 w' w.heap.size (fun k_ => some k_ ≠ (v171 : Value).ownBlock ∧ some k_ ≠ (v178 : Value).ownBlock ∧ some k_ ≠ (s_ : Value).ownBlock) (.slice Ao21 y163.length co21) y163) ∧ (Kd.R (Kd.int .u8) 5 w' w.heap.size (fun k_ => some k_ ≠ (.slice Ao21 y163.length co21 : Value).ownBlock ∧ some k_ ≠ (v178 : Value).ownBlock ∧ some k_ ≠ (s_ : Value).ownBlock) v171 t170) ∧ (Kd.R (Kd.int .u8) 5 w' w.heap.size (fun k_ => some k_ ≠ (.slice Ao21 y163.length co21 : Value).ownBlock ∧ some k_ ≠ (v171 : Value).ownBlock ∧ some k_ ≠ (s_ : Value).ownBlock) v178 t177) ∧ (Kd.R (Kd.int .u8) 5 w' w.heap.size (fun k_ => some k_ ≠ (.slice Ao21 y163.length co21 : Value).ownBlock ∧ some k_ ≠ (v171 : Value).ownBlock ∧ some k_ ≠ (v178 : Value).ownBlock) s_ t180) ∧ (Below w.heap.size w w')) ?_ ?_
  rotate_left
  {
  intro hJ1_3_5_6_11_16
  refine join_ (σ := Value) 14 #[true, true, true, true, true, true, true, true, true, true, true, false, true, true, true, true, true, false, false, false, false, false, false, false, false, false, false, false, false, false] (fun s_ => [(37, .string (strOfNums t170)), (39, .string (strOfNums l1)), (41, s_), (42, .string (strOfNums t180)), (49, .string (strOfNums l1)), (52, .int .u64 t183), (43, .string ((strOfNums l1) ++ (strOfNums t180))), (44, .bool false), (45, .bool false), (46, v178), (48, .slice A1 l1.length c1), (50, .int .u64 a0), (51, .int .i64 (wrap64 (a0)))]) (fun s_ w' => (Kd.Q (Kd.int .u8) 5 w' w.heap.size (fun k_ => some k_ ≠ (v171 : Value).ownBlock ∧ some k_ ≠ (v178 : Value).ownBlock ∧ some k_ ≠ (s_ : Value).ownBlock) (.slice Ao21 y163.length co21) y163) ∧ (Kd.R (Kd.int .u8) 5 w' w.heap.size (fun k_ => some k_ ≠ (.slice Ao21 y163.length co21 : Value).ownBlock ∧ some k_ ≠ (v178 : Value).ownBlock ∧ some k_ ≠ (s_ : Value).ownBlock) v171 t170) ∧ (Kd.R (Kd.int .u8) 5 w' w.heap.size (fun k_ => some k_ ≠ (.slice Ao21 y163.length co21 : Value).ownBlock ∧ some k_ ≠ (v171 : Value).ownBlock ∧ some k_ ≠ (s_ : Value).ownBlock) v178 t177) ∧ (Kd.R (Kd.int .u8) 5 w' w.heap.size (fun k_ => some k_ ≠ (.slice Ao21 y163.length co21 : Value).ownBlock ∧ some k_ ≠ (v171 : Value).ownBlock ∧ some k_ ≠ (v178 : Value).ownBlock) s_ t180) ∧ (Below w.heap.size w w')) ?_ ?_
  rotate_left
  {
  intro hJ1_3_5_6_13_16
  refine join_ (σ := Value × Value) 14 #[true, true, true, true, true, true, true, true, true, true, true, false, true, false, true, true, true, true, false, false, false, false, false, false, false, false, false, false, false, false] (fun s_ => [(37, .string (strOfNums t170)), (39, .string (strOfNums l1)), (41, s_.1), (42, .string (strOfNums t180)), (52, .int .u64 t183), (53, s_.2), (43, .string ((strOfNums l1) ++ (strOfNums t180))), (44, .bool false), (45, .bool false), (46, v178), (48, .slice A1 l1.length c1), (50, .int .u64 a0), (51, .int .i64 (wrap64 (a0)))]) (fun s_ w' => (Kd.Q (Kd.int .u8) 5 w' w.heap.size (fun k_ => some k_ ≠ (v171 : Value).ownBlock ∧ some k_ ≠ (v178 : Value).ownBlock ∧ some k_ ≠ (s_.1 : Value).ownBlock ∧ some k_ ≠ (s_.2 : Value).ownBlock) (.slice Ao21 y163.length co21) y163) ∧ (Kd.R (Kd.int .u8) 5 w' w.heap.size (fun k_ => some k_ ≠ (.slice Ao21 y163.length co21 : Value).ownBlock ∧ some k_ ≠ (v178 : Value).ownBlock ∧ some k_ ≠ (s_.1 : Value).ownBlock ∧ some k_ ≠ (s_.2 : Value).ownBlock) v171 t170) ∧ (Kd.R (Kd.int .u8) 5 w' w.heap.size (fun k_ => some k_ ≠ (.slice Ao21 y163.length co21 : Value).ownBlock ∧ some k_ ≠ (v171 : Value).ownBlock ∧ some k_ ≠ (s_.1 : Value).ownBlock ∧ some k_ ≠ (s_.2 : Value).ownBlock) v178 t177) ∧ (Kd.R (Kd.int .u8) 5 w' w.heap.size (fun k_ => some k_ ≠ (.slice Ao21 y163.length co21 : Value).ownBlock ∧ some k_ ≠ (v171 : Value).ownBlock ∧ some k_ ≠ (v178 : Value).ownBlock ∧ some k_ ≠ (s_.2 : Value).ownBlock) s_.1 t180) ∧ (Kd.R (Kd.int .u8) 5 w' w.heap.size (fun k_ => some k_ ≠ (.slice Ao21 y163.length co21 : Value).ownBlock ∧ some k_ ≠ (v171 : Value).ownBlock ∧ some k_ ≠ (v178 : Value).ownBlock ∧ some k_ ≠ (s_.1 : Value).ownBlock) s_.2 t184) ∧ (Below w.heap.size w w')) ?_ ?_
  rotate_left
  {
  intro hJ1_3_5_6_16_17
  refine join_ (σ := Value) 15 #[true, true, true, true, true, true, true, true, true, true, true, true, true, false, true, true, false, false, false, false, false, false, false, false, false, false, false, false, false, false] (fun s_ => [(37, .string (strOfNums t170)), (39, .string (strOfNums l1)), (41, s_), (42, .string (strOfNums t180)), (47, .string (strOfNums t177)), (43, .string ((strOfNums l1) ++ (strOfNums t180))), (44, .bool false), (45, .bool false), (46, v178), (48, .slice A1 l1.length c1), (50, .int .u64 a0), (51, .int .i64 (wrap64 (a0)))]) (fun s_ w' => (Kd.Q (Kd.int .u8) 5 w' w.heap.size (fun k_ => some k_ ≠ (v171 : Value).ownBlock ∧ some k_ ≠ (v178 : Value).ownBlock ∧ some k_ ≠ (s_ : Value).ownBlock) (.slice Ao21 y163.length co21) y163) ∧ (Kd.R (Kd.int .u8) 5 w' w.heap.size (fun k_ => some k_ ≠ (.slice Ao21 y163.length co21 : Value).ownBlock ∧ some k_ ≠ (v178 : Value).ownBlock ∧ some k_ ≠ (s_ : Value).ownBlock) v171 t170) ∧ (Kd.R (Kd.int .u8) 5 w' w.heap.size (fun k_ => some k_ ≠ (.slice Ao21 y163.length co21 : Value).ownBlock ∧ some k_ ≠ (v171 : Value).ownBlock ∧ some k_ ≠ (s_ : Value).ownBlock) v178 t177) ∧ (Kd.R (Kd.int .u8) 5 w' w.heap.size (fun k_ => some k_ ≠ (.slice Ao21 y163.length co21 : Value).ownBlock ∧ some k_ ≠ (v171 : Value).ownBlock ∧ some k_ ≠ (v178 : Value).ownBlock) s_ t180) ∧ (Below w.heap.size w w')) ?_ ?_
  rotate_left
  {
  intro hJ1_3_5_6_11
  refine join_ (σ := Value) 15 #[true, true, true, true, true, true, true, true, true, true, true, false, true, true, true, true, false, false, false, false, false, false, false, false, false, false, false, false, false, false] (fun s_ => [(37, .string (strOfNums t170)), (39, .string (strOfNums l1)), (41, s_), (42, .string (strOfNums t180)), (49, .string (strOfNums l1)), (43, .string ((strOfNums l1) ++ (strOfNums t180))), (44, .bool false), (45, .bool false), (46, v178), (48, .slice A1 l1.length c1), (50, .int .u64 a0), (51, .int .i64 (wrap64 (a0)))]) (fun s_ w' => (Kd.Q (Kd.int .u8) 5 w' w.heap.size (fun k_ => some k_ ≠ (v171 : Value).ownBlock ∧ some k_ ≠ (v178 : Value).ownBlock ∧ some k_ ≠ (s_ : Value).ownBlock) (.slice Ao21 y163.length co21) y163) ∧ (Kd.R (Kd.int .u8) 5 w' w.heap.size (fun k_ => some k_ ≠ (.slice Ao21 y163.length co21 : Value).ownBlock ∧ some k_ ≠ (v178 : Value).ownBlock ∧ some k_ ≠ (s_ : Value).ownBlock) v171 t170) ∧ (Kd.R (Kd.int .u8) 5 w' w.heap.size (fun k_ => some k_ ≠ (.slice Ao21 y163.length co21 : Value).ownBlock ∧ some k_ ≠ (v171 : Value).ownBlock ∧ some k_ ≠ (s_ : Value).ownBlock) v178 t177) ∧ (Kd.R (Kd.int .u8) 5 w' w.heap.size (fun k_ => some k_ ≠ (.slice Ao21 y163.length co21 : Value).ownBlock ∧ some k_ ≠ (v171 : Value).ownBlock ∧ some k_ ≠ (v178 : Value).ownBlock) s_ t180) ∧ (Below w.heap.size w w')) ?_ ?_
  rotate_left
  {
  intro hJ1_3_5_6_13
  refine join_ (σ := Value) 15 #[true, true, true, true, true, true, true, true, true, true, true, false, true, false, true, true, true, false, false, false, false, false, false, false, false, false, false, false, false, false] (fun s_ => [(37, .string (strOfNums t170)), (39, .string (strOfNums l1)), (41, s_), (42, .string (strOfNums t180)), (52, .int .u64 t183), (43, .string ((strOfNums l1) ++ (strOfNums t180))), (44, .bool false), (45, .bool false), (46, v178), (48, .slice A1 l1.length c1), (50, .int .u64 a0), (51, .int .i64 (wrap64 (a0)))]) (fun s_ w' => (Kd.Q (Kd.int .u8) 5 w' w.heap.size (fun k_ => some k_ ≠ (v171 : Value).ownBlock ∧ some k_ ≠ (v178 : Value).ownBlock ∧ some k_ ≠ (s_ : Value).ownBlock) (.slice Ao21 y163.length co21) y163) ∧ (Kd.R (Kd.int .u8) 5 w' w.heap.size (fun k_ => some k_ ≠ (.slice Ao21 y163.length co21 : Value).ownBlock ∧ some k_ ≠ (v178 : Value).ownBlock ∧ some k_ ≠ (s_ : Value).ownBlock) v171 t170) ∧ (Kd.R (Kd.int .u8) 5 w' w.heap.size (fun k_ => some k_ ≠ (.slice Ao21 y163.length co21 : Value).ownBlock ∧ some k_ ≠ (v171 : Value).ownBlock ∧ some k_ ≠ (s_ : Value).ownBlock) v178 t177) ∧ (Kd.R (Kd.int .u8) 5 w' w.heap.size (fun k_ => some k_ ≠ (.slice Ao21 y163.length co21 : Value).ownBlock ∧ some k_ ≠ (v171 : Value).ownBlock ∧ some k_ ≠ (v178 : Value).ownBlock) s_ t180) ∧ (Below w.heap.size w w')) ?_ ?_
  rotate_left
  {
  intro hJ1_3_5_6_16
  refine join_ (σ := Value) 16 #[true, true, true, true, true, true, true, true, true, true, true, false, true, false, true, true, false, false, false, false, false, false, false, false, false, false, false, false, false, false] (fun s_ => [(37, .string (strOfNums t170)), (39, .string (strOfNums l1)), (41, s_), (42, .string (strOfNums t180)), (43, .string ((strOfNums l1) ++ (strOfNums t180))), (44, .bool false), (45, .bool false), (46, v178), (48, .slice A1 l1.length c1), (50, .int .u64 a0), (51, .int .i64 (wrap64 (a0)))]) (fun s_ w' => (Kd.Q (Kd.int .u8) 5 w' w.heap.size (fun k_ => some k_ ≠ (v171 : Value).ownBlock ∧ some k_ ≠ (v178 : Value).ownBlock ∧ some k_ ≠ (s_ : Value).ownBlock) (.slice Ao21 y163.length co21) y163) ∧ (Kd.R (Kd.int .u8) 5 w' w.heap.size (fun k_ => some k_ ≠ (.slice Ao21 y163.length co21 : Value).ownBlock ∧ some k_ ≠ (v178 : Value).ownBlock ∧ some k_ ≠ (s_ : Value).ownBlock) v171 t170) ∧ (Kd.R (Kd.int .u8) 5 w' w.heap.size (fun k_ => some k_ ≠ (.slice Ao21 y163.length co21 : Value).ownBlock ∧ some k_ ≠ (v171 : Value).ownBlock ∧ some k_ ≠ (s_ : Value).ownBlock) v178 t177) ∧ (Kd.R (Kd.int .u8) 5 w' w.heap.size (fun k_ => some k_ ≠ (.slice Ao21 y163.length co21 : Value).ownBlock ∧ some k_ ≠ (v171 : Value).ownBlock ∧ some k_ ≠ (v178 : Value).ownBlock) s_ t180) ∧ (Below w.heap.size w w')) ?_ ?_
  rotate_left
  {
  intro hJ1_3_5_6
  refine join_ (σ := Value) 24 #[true, true, true, true, true, true, false, false, false, false, false, false, false, false, false, false, false, false, false, false, false, false, false, false, false, false, false, false, false, false] (fun s_ => [(37, .string (strOfNums t170)), (39, .string (strOfNums l1)), (41, s_)]) (fun s_ w' => (Kd.Q (Kd.int .u8) 5 w' w.heap.size (fun k_ => some k_ ≠ (v171 : Value).ownBlock ∧ some k_ ≠ (v178 : Value).ownBlock ∧ some k_ ≠ (s_ : Value).ownBlock) (.slice Ao21 y163.length co21) y163) ∧ (Kd.R (Kd.int .u8) 5 w' w.heap.size (fun k_ => some k_ ≠ (.slice Ao21 y163.length co21 : Value).ownBlock ∧ some k_ ≠ (v178 : Value).ownBlock ∧ some k_ ≠ (s_ : Value).ownBlock) v171 t170) ∧ (Kd.R (Kd.int .u8) 5 w' w.heap.size (fun k_ => some k_ ≠ (.slice Ao21 y163.length co21 : Value).ownBlock ∧ some k_ ≠ (v171 : Value).ownBlock ∧ some k_ ≠ (s_ : Value).ownBlock) v178 t177) ∧ (Kd.R (Kd.int .u8) 5 w' w.heap.size (fun k_ => some k_ ≠ (.slice Ao21 y163.length co21 : Value).ownBlock ∧ some k_ ≠ (v171 : Value).ownBlock ∧ some k_ ≠ (v178 : Value).ownBlock) s_ t180) ∧ (Below w.heap.size w w')) ?_ ?_
  rotate_left
  {
  intro hJ1_3_5
  refine join_ (σ := Value) 24 #[true, true, true, false, true, true, true, false, false, false, false, false, false, false, false, false, false, false, false, false, false, false, false, false, false, false, false, false, false, false] (fun s_ => [(37, .string (strOfNums t170)), (41, s_), (42, .string (strOfNums t180))]) (fun s_ w' => (Kd.Q (Kd.int .u8) 5 w' w.heap.size (fun k_ => some k_ ≠ (v171 : Value).ownBlock ∧ some k_ ≠ (v178 : Value).ownBlock ∧ some k_ ≠ (s_ : Value).ownBlock) (.slice Ao21 y163.length co21) y163) ∧ (Kd.R (Kd.int .u8) 5 w' w.heap.size (fun k_ => some k_ ≠ (.slice Ao21 y163.length co21 : Value).ownBlock ∧ some k_ ≠ (v178 : Value).ownBlock ∧ some k_ ≠ (s_ : Value).ownBlock) v171 t170) ∧ (Kd.R (Kd.int .u8) 5 w' w.heap.size (fun k_ => some k_ ≠ (.slice Ao21 y163.length co21 : Value).ownBlock ∧ some k_ ≠ (v171 : Value).ownBlock ∧ some k_ ≠ (s_ : Value).ownBlock) v178 t177) ∧ (Kd.R (Kd.int .u8) 5 w' w.heap.size (fun k_ => some k_ ≠ (.slice Ao21 y163.length co21 : Value).ownBlock ∧ some k_ ≠ (v171 : Value).ownBlock ∧ some k_ ≠ (v178 : Value).ownBlock) s_ t180) ∧ (Below w.heap.size w w')) ?_ ?_
  rotate_left
  {
  intro hJ1_5_6
  refine join_ (σ := Value) 23 #[true, false, true, true, true, true, true, true, false, false, false, false, false, false, false, false, false, false, false, false, false, false, false, false, false, false, false, false, false, false] (fun s_ => [(39, .string (strOfNums l1)), (41, s_), (42, .string (strOfNums t180)), (43, .string ((strOfNums l1) ++ (strOfNums t180)))]) (fun s_ w' => (Kd.Q (Kd.int .u8) 5 w' w.heap.size (fun k_ => some k_ ≠ (v171 : Value).ownBlock ∧ some k_ ≠ (v178 : Value).ownBlock ∧ some k_ ≠ (s_ : Value).ownBlock) (.slice Ao21 y163.length co21) y163) ∧ (Kd.R (Kd.int .u8) 5 w' w.heap.size (fun k_ => some k_ ≠ (.slice Ao21 y163.length co21 : Value).ownBlock ∧ some k_ ≠ (v178 : Value).ownBlock ∧ some k_ ≠ (s_ : Value).ownBlock) v171 t170) ∧ (Kd.R (Kd.int .u8) 5 w' w.heap.size (fun k_ => some k_ ≠ (.slice Ao21 y163.length co21 : Value).ownBlock ∧ some k_ ≠ (v171 : Value).ownBlock ∧ some k_ ≠ (s_ : Value).ownBlock) v178 t177) ∧ (Kd.R (Kd.int .u8) 5 w' w.heap.size (fun k_ => some k_ ≠ (.slice Ao21 y163.length co21 : Value).ownBlock ∧ some k_ ≠ (v171 : Value).ownBlock ∧ some k_ ≠ (v178 : Value).ownBlock) s_ t180) ∧ (Below w.heap.size w w')) ?_ ?_
  rotate_left
  {
  intro hJ3_5_6
  refine join_ (σ := Unit) 25 #[true, true, true, true, true, false, false, false, false, false, false, false, false, false, false, false, false, false, false, false, false, false, false, false, false, false, false, false, false, false] (fun s_ => [(37, .string (strOfNums t170)), (39, .string (strOfNums l1))]) (fun s_ w' => (Kd.Q (Kd.int .u8) 5 w' w.heap.size (fun k_ => some k_ ≠ (v171 : Value).ownBlock ∧ some k_ ≠ (v178 : Value).ownBlock) (.slice Ao21 y163.length co21) y163) ∧ (Kd.R (Kd.int .u8) 5 w' w.heap.size (fun k_ => some k_ ≠ (.slice Ao21 y163.length co21 : Value).ownBlock ∧ some k_ ≠ (v178 : Value).ownBlock) v171 t170) ∧ (Kd.R (Kd.int .u8) 5 w' w.heap.size (fun k_ => some k_ ≠ (.slice Ao21 y163.length co21 : Value).ownBlock ∧ some k_ ≠ (v171 : Value).ownBlock) v178 t177) ∧ (Below w.heap.size w w')) ?_ ?_
  rotate_left
  {
  intro hJ1_3
  refine join_ (σ := Value) 25 #[true, true, true, false, true, true, false, false, false, false, false, false, false, false, false, false, false, false, false, false, false, false, false, false, false, false, false, false, false, false] (fun s_ => [(37, .string (strOfNums t170)), (41, s_)]) (fun s_ w' => (Kd.Q (Kd.int .u8) 5 w' w.heap.size (fun k_ => some k_ ≠ (v171 : Value).ownBlock ∧ some k_ ≠ (v178 : Value).ownBlock ∧ some k_ ≠ (s_ : Value).ownBlock) (.slice Ao21 y163.length co21) y163) ∧ (Kd.R (Kd.int .u8) 5 w' w.heap.size (fun k_ => some k_ ≠ (.slice Ao21 y163.length co21 : Value).ownBlock ∧ some k_ ≠ (v178 : Value).ownBlock ∧ some k_ ≠ (s_ : Value).ownBlock) v171 t170) ∧ (Kd.R (Kd.int .u8) 5 w' w.heap.size (fun k_ => some k_ ≠ (.slice Ao21 y163.length co21 : Value).ownBlock ∧ some k_ ≠ (v171 : Value).ownBlock ∧ some k_ ≠ (s_ : Value).ownBlock) v178 t177) ∧ (Kd.R (Kd.int .u8) 5 w' w.heap.size (fun k_ => some k_ ≠ (.slice Ao21 y163.length co21 : Value).ownBlock ∧ some k_ ≠ (v171 : Value).ownBlock ∧ some k_ ≠ (v178 : Value).ownBlock) s_ t180) ∧ (Below w.heap.size w w')) ?_ ?_
  rotate_left
  {
  intro hJ1_5
  refine join_ (σ := Value) 25 #[true, false, true, true, true, true, false, false, false, false, false, false, false, false, false, false, false, false, false, false, false, false, false, false, false, false, false, false, false, false] (fun s_ => [(39, .string (strOfNums l1)), (41, s_)]) (fun s_ w' => (Kd.Q (Kd.int .u8) 5 w' w.heap.size (fun k_ => some k_ ≠ (v171 : Value).ownBlock ∧ some k_ ≠ (v178 : Value).ownBlock ∧ some k_ ≠ (s_ : Value).ownBlock) (.slice Ao21 y163.length co21) y163) ∧ (Kd.R (Kd.int .u8) 5 w' w.heap.size (fun k_ => some k_ ≠ (.slice Ao21 y163.length co21 : Value).ownBlock ∧ some k_ ≠ (v178 : Value).ownBlock ∧ some k_ ≠ (s_ : Value).ownBlock) v171 t170) ∧ (Kd.R (Kd.int .u8) 5 w' w.heap.size (fun k_ => some k_ ≠ (.slice Ao21 y163.length co21 : Value).ownBlock ∧ some k_ ≠ (v171 : Value).ownBlock ∧ some k_ ≠ (s_ : Value).ownBlock) v178 t177) ∧ (Kd.R (Kd.int .u8) 5 w' w.heap.size (fun k_ => some k_ ≠ (.slice Ao21 y163.length co21 : Value).ownBlock ∧ some k_ ≠ (v171 : Value).ownBlock ∧ some k_ ≠ (v178 : Value).ownBlock) s_ t180) ∧ (Below w.heap.size w w')) ?_ ?_
  rotate_left
  {
  intro hJ3_5
  refine join_ (σ := Value) 25 #[true, false, true, false, true, true, true, false, false, false, false, false, false, false, false, false, false, false, false, false, false, false, false, false, false, false, false, false, false, false] (fun s_ => [(41, s_), (42, .string (strOfNums t180))]) (fun s_ w' => (Kd.Q (Kd.int .u8) 5 w' w.heap.size (fun k_ => some k_ ≠ (v171 : Value).ownBlock ∧ some k_ ≠ (v178 : Value).ownBlock ∧ some k_ ≠ (s_ : Value).ownBlock) (.slice Ao21 y163.length co21) y163) ∧ (Kd.R (Kd.int .u8) 5 w' w.heap.size (fun k_ => some k_ ≠ (.slice Ao21 y163.length co21 : Value).ownBlock ∧ some k_ ≠ (v178 : Value).ownBlock ∧ some k_ ≠ (s_ : Value).ownBlock) v171 t170) ∧ (Kd.R (Kd.int .u8) 5 w' w.heap.size (fun k_ => some k_ ≠ (.slice Ao21 y163.length co21 : Value).ownBlock ∧ some k_ ≠ (v171 : Value).ownBlock ∧ some k_ ≠ (s_ : Value).ownBlock) v178 t177) ∧ (Kd.R (Kd.int .u8) 5 w' w.heap.size (fun k_ => some k_ ≠ (.slice Ao21 y163.length co21 : Value).ownBlock ∧ some k_ ≠ (v171 : Value).ownBlock ∧ some k_ ≠ (v178 : Value).ownBlock) s_ t180) ∧ (Below w.heap.size w w')) ?_ ?_
  rotate_left
  {
  intro hJ5_6
  refine join_ (σ := Unit) 26 #[true, true, true, false, true, false, false, false, false, false, false, false, false, false, false, false, false, false, false, false, false, false, false, false, false, false, false, false, false, false] (fun s_ => [(37, .string (strOfNums t170))]) (fun s_ w' => (Kd.Q (Kd.int .u8) 5 w' w.heap.size (fun k_ => some k_ ≠ (v171 : Value).ownBlock ∧ some k_ ≠ (v178 : Value).ownBlock) (.slice Ao21 y163.length co21) y163) ∧ (Kd.R (Kd.int .u8) 5 w' w.heap.size (fun k_ => some k_ ≠ (.slice Ao21 y163.length co21 : Value).ownBlock ∧ some k_ ≠ (v178 : Value).ownBlock) v171 t170) ∧ (Kd.R (Kd.int .u8) 5 w' w.heap.size (fun k_ => some k_ ≠ (.slice Ao21 y163.length co21 : Value).ownBlock ∧ some k_ ≠ (v171 : Value).ownBlock) v178 t177) ∧ (Below w.heap.size w w')) ?_ ?_
  rotate_left
  {
  intro hJ1
  refine join_ (σ := Unit) 26 #[true, false, true, true, true, false, false, false, false, false, false, false, false, false, false, false, false, false, false, false, false, false, false, false, false, false, false, false, false, false] (fun s_ => [(39, .string (strOfNums l1))]) (fun s_ w' => (Kd.Q (Kd.int .u8) 5 w' w.heap.size (fun k_ => some k_ ≠ (v171 : Value).ownBlock ∧ some k_ ≠ (v178 : Value).ownBlock) (.slice Ao21 y163.length co21) y163) ∧ (Kd.R (Kd.int .u8) 5 w' w.heap.size (fun k_ => some k_ ≠ (.slice Ao21 y163.length co21 : Value).ownBlock ∧ some k_ ≠ (v178 : Value).ownBlock) v171 t170) ∧ (Kd.R (Kd.int .u8) 5 w' w.heap.size (fun k_ => some k_ ≠ (.slice Ao21 y163.length co21 : Value).ownBlock ∧ some k_ ≠ (v171 : Value).ownBlock) v178 t177) ∧ (Below w.heap.size w w')) ?_ ?_
  rotate_left
  {
  intro hJ3
  refine join_ (σ := Value) 26 #[true, false, true, false, true, true, false, false, false, false, false, false, false, false, false, false, false, false, false, false, false, false, false, false, false, false, false, false, false, false] (fun s_ => [(41, s_)]) (fun s_ w' => (Kd.Q (Kd.int .u8) 5 w' w.heap.size (fun k_ => some k_ ≠ (v171 : Value).ownBlock ∧ some k_ ≠ (v178 : Value).ownBlock ∧ some k_ ≠ (s_ : Value).ownBlock) (.slice Ao21 y163.length co21) y163) ∧ (Kd.R (Kd.int .u8) 5 w' w.heap.size (fun k_ => some k_ ≠ (.slice Ao21 y163.length co21 : Value).ownBlock ∧ some k_ ≠ (v178 : Value).ownBlock ∧ some k_ ≠ (s_ : Value).ownBlock) v171 t170) ∧ (Kd.R (Kd.int .u8) 5 w' w.heap.size (fun k_ => some k_ ≠ (.slice Ao21 y163.length co21 : Value).ownBlock ∧ some k_ ≠ (v171 : Value).ownBlock ∧ some k_ ≠ (s_ : Value).ownBlock) v178 t177) ∧ (Kd.R (Kd.int .u8) 5 w' w.heap.size (fun k_ => some k_ ≠ (.slice Ao21 y163.length co21 : Value).ownBlock ∧ some k_ ≠ (v171 : Value).ownBlock ∧ some k_ ≠ (v178 : Value).ownBlock) s_ t180) ∧ (Below w.heap.size w w')) ?_ ?_
  rotate_left
  {
  intro hJ5
  refine three_ (i := 1) (j := 3) (k := 5) (Ni := some 37) (Nj := some 39) (Nk := some 41) #[true, true, true, false, true, false, false, false, false, false, false, false, false, false, false, false, false, false, false, false, false, false, false, false, false, false, false, false, false, false] #[true, false, true, true, true, false, false, false, false, false, false, false, false, false, false, false, false, false, false, false, false, false, false, false, false, false, false, false, false, false] #[true, false, true, false, true, true, false, false, false, false, false, false, false, false, false, false, false, false, false, false, false, false, false, false, false, false, false, false, false, false] rfl rfl rfl rfl rfl rfl (three_of HT_.out (by kernel_rfl)) (by decide) (by decide) (by decide) (fun K hK => ?_) (fun K hK => ?_) (fun K hK => ?_)
  {
  skip
  have hcv34 := own_string (P := Try.prog) Try.underlying27 Try.underlying5 Try.underlying9 (Kd.own_of_R HO172.out)
  refine value_ (w1 := ?_) (v := ?_) (by rfl) rfl ?_ ?_
  rotate_left 2
  {
  go_simp
  constructor
  {
  rfl
  }
  {
  rfl
  }
  }
  clear hcv34
  refine hK.out _ _ trivial (fun hHeld => ?_)
  clear hK K
  refine norm_ (a' := ?_) ?_ ?_
  rotate_left
  {
  show Act.put _ (some 37) _ = _
  simp only [Act.put, List.setIfInBounds_toArray, List.set_cons_zero, List.set_cons_succ, i64_w, i32_w]
  rfl
  }
  exact norm_ (by first | (simp only [putAll, Act.put, List.setIfInBounds_toArray, List.set_cons_zero, List.set_cons_succ]; done) | (simp only [putAll, Act.put, List.setIfInBounds_toArray, List.set_cons_zero, List.set_cons_succ]; rfl)) (hJ1 () _ ⟨Kd.Q_mono HO165.out (fun _ hk => ⟨hk.1.2, hk.2⟩), Kd.R_mono HO172.out (fun _ hk => ⟨hk.1.2, hk.2⟩), Kd.R_mono HO179.out (fun _ hk => ⟨hk.1.2, hk.2⟩), (by repeat (first | (with_reducible first | exact HB.out | apply below_alloc | apply pw_below_drewN | apply below_drew1) | exact HB.out))⟩)
  }
  {
  skip
  have hcv34 := Kd.C_string (P := Try.prog) (A := A1) (c := c1) Try.underlying27 Try.underlying5 Try.underlying9 (Kd.C_below HR1.out HB.out); have hcv34N := fun m_ => Kd.C_string (P := Try.prog) (A := A1) (c := c1) Try.underlying27 Try.underlying5 Try.underlying9 (Kd.C_drewN (Kd.C_below HR1.out HB.out) m_)
  refine value_ (w1 := ?_) (v := ?_) (by rfl) rfl ?_ ?_
  rotate_left 2
  {
  go_simp
  constructor
  {
  rfl
  }
  {
  rfl
  }
  }
  clear hcv34
  refine hK.out _ _ trivial (fun hHeld => ?_)
  clear hK K
  refine norm_ (a' := ?_) ?_ ?_
  rotate_left
  {
  show Act.put _ (some 39) _ = _
  simp only [Act.put, List.setIfInBounds_toArray, List.set_cons_zero, List.set_cons_succ, i64_w, i32_w]
  rfl
  }
  exact norm_ (by first | (simp only [putAll, Act.put, List.setIfInBounds_toArray, List.set_cons_zero, List.set_cons_succ]; done) | (simp only [putAll, Act.put, List.setIfInBounds_toArray, List.set_cons_zero, List.set_cons_succ]; rfl)) (hJ3 () _ ⟨Kd.Q_mono HO165.out (fun _ hk => ⟨hk.1.2, hk.2⟩), Kd.R_mono HO172.out (fun _ hk => ⟨hk.1.2, hk.2⟩), Kd.R_mono HO179.out (fun _ hk => ⟨hk.1.2, hk.2⟩), (by repeat (first | (with_reducible first | exact HB.out | apply below_alloc | apply pw_below_drewN | apply below_drew1) | exact HB.out))⟩)
  }
  {
  skip
  refine goes_ Try.func12 (by kernel_rfl) rfl #[.int .u64 a0] (by rfl) rfl rfl (by (try simp only [List.map_toArray, List.map_cons, List.map_nil]); first | done | rfl | (simp only [List.length_drop, List.length_take]; rfl)) ?_
  with_reducible refine (ferruleref4_Put.calls k a0 t180 _ A25.out).mono ?_
  rintro e w34 ⟨v181, rfl, ho0, hb⟩
  refine ⟨_, rfl, ?_⟩
  have n0_ := Aside0.mk (Kd.Q_elder' (by (with_reducible repeat (first | apply Kd.Q_alloc | apply Kd.Q_drewN | apply Kd.Q_drew)); exact HO165.out) (Kd.R_base ho0) hb)
  have n1_ := Aside0.mk (Kd.R_elder' (by (with_reducible repeat (first | apply Kd.R_alloc | apply Kd.R_drewN | apply Kd.R_drew)); exact HO172.out) (Kd.R_base ho0) hb)
  have n2_ := Aside0.mk (Kd.R_elder' (by (with_reducible repeat (first | apply Kd.R_alloc | apply Kd.R_drewN | apply Kd.R_drew)); exact HO179.out) (Kd.R_base ho0) hb)
  have n3_ := Aside0.mk (Kd.R_lower (Kd.R_new' (Kd.R_new' (Kd.R_new' ho0 (Kd.Q_lt (by (with_reducible repeat (first | apply Kd.Q_alloc | apply Kd.Q_drewN | apply Kd.Q_drew)); exact HO165.out))) (Kd.R_lt (by (with_reducible repeat (first | apply Kd.R_alloc | apply Kd.R_drewN | apply Kd.R_drew)); exact HO172.out))) (Kd.R_lt (by (with_reducible repeat (first | apply Kd.R_alloc | apply Kd.R_drewN | apply Kd.R_drew)); exact HO179.out))) (below_size (by repeat (first | (with_reducible first | exact HB.out | apply below_alloc | apply pw_below_drewN | apply below_drew1) | exact HB.out))))
  have n4_ := Aside0.mk (Kd.C_below (by repeat (first | (with_reducible exact HR169.out) | (with_reducible refine Kd.C_alloc ?_ _) | (with_reducible refine Kd.C_drewN ?_ _) | (with_reducible refine Kd.C_drew ?_) | exact HR169.out)) hb)
  have n5_ := Aside0.mk (Kd.C_below (by repeat (first | (with_reducible exact HR176.out) | (with_reducible refine Kd.C_alloc ?_ _) | (with_reducible refine Kd.C_drewN ?_ _) | (with_reducible refine Kd.C_drew ?_) | exact HR176.out)) hb)
  have n6_ := Aside0.mk (below_step (by repeat (first | (with_reducible first | exact HB.out | apply below_alloc | apply pw_below_drewN | apply below_drew1) | exact HB.out)) hb)
  clear HO165
  clear HO172
  clear HO179
  clear HR169
  clear HR176
  clear HB
  have HO165 := n0_
  have HO172 := n1_
  have HO179 := n2_
  have HO182 := n3_
  have HR169 := n4_
  have HR176 := n5_
  have HB := n6_
  clear n0_ n1_ n2_ n3_ n4_ n5_ n6_
  (try clear hb)
  (try clear hb2)
  (try clear hk)
  (try clear hi)
  (try clear ho0)
  refine hK.out _ _ trivial (fun hHeld => ?_)
  clear hK K
  refine norm_ (a' := ?_) ?_ ?_
  rotate_left
  {
  show Act.put _ (some 41) _ = _
  simp only [Act.put, List.setIfInBounds_toArray, List.set_cons_zero, List.set_cons_succ, i64_w, i32_w]
  rfl
  }
  exact norm_ (by first | (simp only [putAll, Act.put, List.setIfInBounds_toArray, List.set_cons_zero, List.set_cons_succ]; done) | (simp only [putAll, Act.put, List.setIfInBounds_toArray, List.set_cons_zero, List.set_cons_succ]; rfl)) (hJ5 (v181) _ ⟨Kd.Q_mono HO165.out (fun _ hk => ⟨hk.1.1.2, ⟨hk.1.2, hk.2⟩⟩), Kd.R_mono HO172.out (fun _ hk => ⟨hk.1.1.2, ⟨hk.1.2, hk.2⟩⟩), Kd.R_mono HO179.out (fun _ hk => ⟨hk.1.1.2, ⟨hk.1.2, hk.2⟩⟩), Kd.R_mono HO182.out (fun _ hk => ⟨hk.1.1.2, ⟨hk.1.2, hk.2⟩⟩), (by repeat (first | (with_reducible first | exact HB.out | apply below_alloc | apply pw_below_drewN | apply below_drew1) | exact HB.out))⟩)
  }
  }
  {
  skip
  rintro v181 w35 ⟨h0_, h1_, h2_, h3_, h4_⟩
  have n0_ : Aside0 (Kd.Q (Kd.int .u8) 5 w35 w.heap.size (fun k_ => some k_ ≠ (v171 : Value).ownBlock ∧ some k_ ≠ (v178 : Value).ownBlock ∧ some k_ ≠ (v181 : Value).ownBlock) (.slice Ao21 y163.length co21) y163) := ⟨h0_⟩
  have n1_ : Aside0 (Kd.R (Kd.int .u8) 5 w35 w.heap.size (fun k_ => some k_ ≠ (.slice Ao21 y163.length co21 : Value).ownBlock ∧ some k_ ≠ (v178 : Value).ownBlock ∧ some k_ ≠ (v181 : Value).ownBlock) v171 t170) := ⟨h1_⟩
  have n2_ : Aside0 (Kd.R (Kd.int .u8) 5 w35 w.heap.size (fun k_ => some k_ ≠ (.slice Ao21 y163.length co21 : Value).ownBlock ∧ some k_ ≠ (v171 : Value).ownBlock ∧ some k_ ≠ (v181 : Value).ownBlock) v178 t177) := ⟨h2_⟩
  have n3_ : Aside0 (Kd.R (Kd.int .u8) 5 w35 w.heap.size (fun k_ => some k_ ≠ (.slice Ao21 y163.length co21 : Value).ownBlock ∧ some k_ ≠ (v171 : Value).ownBlock ∧ some k_ ≠ (v178 : Value).ownBlock) v181 t180) := ⟨h3_⟩
  have n4_ : Aside0 (Below w.heap.size w w35) := ⟨h4_⟩
  clear HO165
  clear HO172
  clear HO179
  clear HR169
  clear HR176
  clear HB
  clear h0_ h1_ h2_ h3_ h4_
  have HO165 := n0_
  have HO172 := n1_
  have HO179 := n2_
  have HO182 := n3_
  have HB := n4_
  clear n0_ n1_ n2_ n3_ n4_
  have hHeld := trivial
  refine norm_ (a' := ?_) ?_ ?_
  rotate_left
  {
  simp only [putAll, Act.put, List.setIfInBounds_toArray, List.set_cons_zero, List.set_cons_succ]
  rfl
  }
  refine three_ (i := 1) (j := 3) (k := 6) (Ni := some 37) (Nj := some 39) (Nk := some 42) #[true, true, true, false, true, true, false, false, false, false, false, false, false, false, false, false, false, false, false, false, false, false, false, false, false, false, false, false, false, false] #[true, false, true, true, true, true, false, false, false, false, false, false, false, false, false, false, false, false, false, false, false, false, false, false, false, false, false, false, false, false] #[true, false, true, false, true, true, true, false, false, false, false, false, false, false, false, false, false, false, false, false, false, false, false, false, false, false, false, false, false, false] rfl rfl rfl rfl rfl rfl (three_of HT_.out (by kernel_rfl)) (by decide) (by decide) (by decide) (fun K hK => ?_) (fun K hK => ?_) (fun K hK => ?_)
  {
  skip
  have hcv36 := own_string (P := Try.prog) Try.underlying27 Try.underlying5 Try.underlying9 (Kd.own_of_R HO172.out)
  refine value_ (w1 := ?_) (v := ?_) (by rfl) rfl ?_ ?_
  rotate_left 2
  {
  go_simp
  constructor
  {
  rfl
  }
  {
  rfl
  }
  }
  clear hcv36
  refine hK.out _ _ trivial (fun hHeld => ?_)
  clear hK K
  refine norm_ (a' := ?_) ?_ ?_
  rotate_left
  {
  show Act.put _ (some 37) _ = _
  simp only [Act.put, List.setIfInBounds_toArray, List.set_cons_zero, List.set_cons_succ, i64_w, i32_w]
  rfl
  }
  exact norm_ (by first | (simp only [putAll, Act.put, List.setIfInBounds_toArray, List.set_cons_zero, List.set_cons_succ]; done) | (simp only [putAll, Act.put, List.setIfInBounds_toArray, List.set_cons_zero, List.set_cons_succ]; rfl)) (hJ1_5 (v181) _ ⟨HO165.out, HO172.out, HO179.out, HO182.out, (by repeat (first | (with_reducible first | exact HB.out | apply below_alloc | apply pw_below_drewN | apply below_drew1) | exact HB.out))⟩)
  }
  {
  skip
  have hcv36 := Kd.C_string (P := Try.prog) (A := A1) (c := c1) Try.underlying27 Try.underlying5 Try.underlying9 (Kd.C_below HR1.out HB.out); have hcv36N := fun m_ => Kd.C_string (P := Try.prog) (A := A1) (c := c1) Try.underlying27 Try.underlying5 Try.underlying9 (Kd.C_drewN (Kd.C_below HR1.out HB.out) m_)
  refine value_ (w1 := ?_) (v := ?_) (by rfl) rfl ?_ ?_
  rotate_left 2
  {
  go_simp
  constructor
  {
  rfl
  }
  {
  rfl
  }
  }
  clear hcv36
  refine hK.out _ _ trivial (fun hHeld => ?_)
  clear hK K
  refine norm_ (a' := ?_) ?_ ?_
  rotate_left
  {
  show Act.put _ (some 39) _ = _
  simp only [Act.put, List.setIfInBounds_toArray, List.set_cons_zero, List.set_cons_succ, i64_w, i32_w]
  rfl
  }
  exact norm_ (by first | (simp only [putAll, Act.put, List.setIfInBounds_toArray, List.set_cons_zero, List.set_cons_succ]; done) | (simp only [putAll, Act.put, List.setIfInBounds_toArray, List.set_cons_zero, List.set_cons_succ]; rfl)) (hJ3_5 (v181) _ ⟨HO165.out, HO172.out, HO179.out, HO182.out, (by repeat (first | (with_reducible first | exact HB.out | apply below_alloc | apply pw_below_drewN | apply below_drew1) | exact HB.out))⟩)
  }
  {
  skip
  have hcv36 := own_string (P := Try.prog) Try.underlying27 Try.underlying5 Try.underlying9 (Kd.own_of_R HO182.out)
  refine value_ (w1 := ?_) (v := ?_) (by rfl) rfl ?_ ?_
  rotate_left 2
  {
  go_simp
  constructor
  {
  rfl
  }
  {
  rfl
  }
  }
  clear hcv36
  refine hK.out _ _ trivial (fun hHeld => ?_)
  clear hK K
  refine norm_ (a' := ?_) ?_ ?_
  rotate_left
  {
  show Act.put _ (some 42) _ = _
  simp only [Act.put, List.setIfInBounds_toArray, List.set_cons_zero, List.set_cons_succ, i64_w, i32_w]
  rfl
  }
  exact norm_ (by first | (simp only [putAll, Act.put, List.setIfInBounds_toArray, List.set_cons_zero, List.set_cons_succ]; done) | (simp only [putAll, Act.put, List.setIfInBounds_toArray, List.set_cons_zero, List.set_cons_succ]; rfl)) (hJ5_6 (v181) _ ⟨HO165.out, HO172.out, HO179.out, HO182.out, (by repeat (first | (with_reducible first | exact HB.out | apply below_alloc | apply pw_below_drewN | apply below_drew1) | exact HB.out))⟩)
  }
  }
  }
  {
  skip
  rintro _ w35 ⟨h0_, h1_, h2_, h3_⟩
  have n0_ : Aside0 (Kd.Q (Kd.int .u8) 5 w35 w.heap.size (fun k_ => some k_ ≠ (v171 : Value).ownBlock ∧ some k_ ≠ (v178 : Value).ownBlock) (.slice Ao21 y163.length co21) y163) := ⟨h0_⟩
  have n1_ : Aside0 (Kd.R (Kd.int .u8) 5 w35 w.heap.size (fun k_ => some k_ ≠ (.slice Ao21 y163.length co21 : Value).ownBlock ∧ some k_ ≠ (v178 : Value).ownBlock) v171 t170) := ⟨h1_⟩
  have n2_ : Aside0 (Kd.R (Kd.int .u8) 5 w35 w.heap.size (fun k_ => some k_ ≠ (.slice Ao21 y163.length co21 : Value).ownBlock ∧ some k_ ≠ (v171 : Value).ownBlock) v178 t177) := ⟨h2_⟩
  have n3_ : Aside0 (Below w.heap.size w w35) := ⟨h3_⟩
  clear HO165
  clear HO172
  clear HO179
  clear HR169
  clear HR176
  clear HB
  clear h0_ h1_ h2_ h3_
  have HO165 := n0_
  have HO172 := n1_
  have HO179 := n2_
  have HB := n3_
  clear n0_ n1_ n2_ n3_
  have hHeld := trivial
  refine norm_ (a' := ?_) ?_ ?_
  rotate_left
  {
  simp only [putAll, Act.put, List.setIfInBounds_toArray, List.set_cons_zero, List.set_cons_succ]
  rfl
  }
  refine two_ (i := 1) (j := 5) (Ni := some 37) (Nj := some 41) #[true, true, true, true, true, false, false, false, false, false, false, false, false, false, false, false, false, false, false, false, false, false, false, false, false, false, false, false, false, false] #[true, false, true, true, true, true, false, false, false, false, false, false, false, false, false, false, false, false, false, false, false, false, false, false, false, false, false, false, false, false] rfl rfl rfl rfl (two_of HT_.out (by kernel_rfl)) (by decide) (by decide) (fun K hK => ?_) (fun K hK => ?_)
  {
  skip
  have hcv36 := own_string (P := Try.prog) Try.underlying27 Try.underlying5 Try.underlying9 (Kd.own_of_R HO172.out)
  refine value_ (w1 := ?_) (v := ?_) (by rfl) rfl ?_ ?_
  rotate_left 2
  {
  go_simp
  constructor
  {
  rfl
  }
  {
  rfl
  }
  }
  clear hcv36
  refine hK.out _ _ trivial (fun hHeld => ?_)
  clear hK K
  refine norm_ (a' := ?_) ?_ ?_
  rotate_left
  {
  show Act.put _ (some 37) _ = _
  simp only [Act.put, List.setIfInBounds_toArray, List.set_cons_zero, List.set_cons_succ, i64_w, i32_w]
  rfl
  }
  exact norm_ (by first | (simp only [putAll, Act.put, List.setIfInBounds_toArray, List.set_cons_zero, List.set_cons_succ]; done) | (simp only [putAll, Act.put, List.setIfInBounds_toArray, List.set_cons_zero, List.set_cons_succ]; rfl)) (hJ1_3 () _ ⟨HO165.out, HO172.out, HO179.out, (by repeat (first | (with_reducible first | exact HB.out | apply below_alloc | apply pw_below_drewN | apply below_drew1) | exact HB.out))⟩)
  }
  {
  skip
  refine goes_ Try.func12 (by kernel_rfl) rfl #[.int .u64 a0] (by rfl) rfl rfl (by (try simp only [List.map_toArray, List.map_cons, List.map_nil]); first | done | rfl | (simp only [List.length_drop, List.length_take]; rfl)) ?_
  with_reducible refine (ferruleref4_Put.calls k a0 t180 _ A25.out).mono ?_
  rintro e w36 ⟨v181, rfl, ho0, hb⟩
  refine ⟨_, rfl, ?_⟩
  have n0_ := Aside0.mk (Kd.Q_elder' (by (with_reducible repeat (first | apply Kd.Q_alloc | apply Kd.Q_drewN | apply Kd.Q_drew)); exact HO165.out) (Kd.R_base ho0) hb)
  have n1_ := Aside0.mk (Kd.R_elder' (by (with_reducible repeat (first | apply Kd.R_alloc | apply Kd.R_drewN | apply Kd.R_drew)); exact HO172.out) (Kd.R_base ho0) hb)
  have n2_ := Aside0.mk (Kd.R_elder' (by (with_reducible repeat (first | apply Kd.R_alloc | apply Kd.R_drewN | apply Kd.R_drew)); exact HO179.out) (Kd.R_base ho0) hb)
  have n3_ := Aside0.mk (Kd.R_lower (Kd.R_new' (Kd.R_new' (Kd.R_new' ho0 (Kd.Q_lt (by (with_reducible repeat (first | apply Kd.Q_alloc | apply Kd.Q_drewN | apply Kd.Q_drew)); exact HO165.out))) (Kd.R_lt (by (with_reducible repeat (first | apply Kd.R_alloc | apply Kd.R_drewN | apply Kd.R_drew)); exact HO172.out))) (Kd.R_lt (by (with_reducible repeat (first | apply Kd.R_alloc | apply Kd.R_drewN | apply Kd.R_drew)); exact HO179.out))) (below_size (by repeat (first | (with_reducible first | exact HB.out | apply below_alloc | apply pw_below_drewN | apply below_drew1) | exact HB.out))))
  have n4_ := Aside0.mk (below_step (by repeat (first | (with_reducible first | exact HB.out | apply below_alloc | apply pw_below_drewN | apply below_drew1) | exact HB.out)) hb)
  clear HO165
  clear HO172
  clear HO179
  clear HB
  have HO165 := n0_
  have HO172 := n1_
  have HO179 := n2_
  have HO182 := n3_
  have HB := n4_
  clear n0_ n1_ n2_ n3_ n4_
  (try clear hb)
  (try clear hb2)
  (try clear hk)
  (try clear hi)
  (try clear ho0)
  refine hK.out _ _ trivial (fun hHeld => ?_)
  clear hK K
  refine norm_ (a' := ?_) ?_ ?_
  rotate_left
  {
  show Act.put _ (some 41) _ = _
  simp only [Act.put, List.setIfInBounds_toArray, List.set_cons_zero, List.set_cons_succ, i64_w, i32_w]
  rfl
  }
  exact norm_ (by first | (simp only [putAll, Act.put, List.setIfInBounds_toArray, List.set_cons_zero, List.set_cons_succ]; done) | (simp only [putAll, Act.put, List.setIfInBounds_toArray, List.set_cons_zero, List.set_cons_succ]; rfl)) (hJ3_5 (v181) _ ⟨Kd.Q_mono HO165.out (fun _ hk => ⟨hk.1.1, ⟨hk.1.2, hk.2⟩⟩), Kd.R_mono HO172.out (fun _ hk => ⟨hk.1.1, ⟨hk.1.2, hk.2⟩⟩), Kd.R_mono HO179.out (fun _ hk => ⟨hk.1.1, ⟨hk.1.2, hk.2⟩⟩), Kd.R_mono HO182.out (fun _ hk => ⟨hk.1.1.2, ⟨hk.1.2, hk.2⟩⟩), (by repeat (first | (with_reducible first | exact HB.out | apply below_alloc | apply pw_below_drewN | apply below_drew1) | exact HB.out))⟩)
  }
  }
  }
  {
  skip
  rintro _ w35 ⟨h0_, h1_, h2_, h3_⟩
  have n0_ : Aside0 (Kd.Q (Kd.int .u8) 5 w35 w.heap.size (fun k_ => some k_ ≠ (v171 : Value).ownBlock ∧ some k_ ≠ (v178 : Value).ownBlock) (.slice Ao21 y163.length co21) y163) := ⟨h0_⟩
  have n1_ : Aside0 (Kd.R (Kd.int .u8) 5 w35 w.heap.size (fun k_ => some k_ ≠ (.slice Ao21 y163.length co21 : Value).ownBlock ∧ some k_ ≠ (v178 : Value).ownBlock) v171 t170) := ⟨h1_⟩
  have n2_ : Aside0 (Kd.R (Kd.int .u8) 5 w35 w.heap.size (fun k_ => some k_ ≠ (.slice Ao21 y163.length co21 : Value).ownBlock ∧ some k_ ≠ (v171 : Value).ownBlock) v178 t177) := ⟨h2_⟩
  have n3_ : Aside0 (Below w.heap.size w w35) := ⟨h3_⟩
  clear HO165
  clear HO172
  clear HO179
  clear HR169
  clear HR176
  clear HB
  clear h0_ h1_ h2_ h3_
  have HO165 := n0_
  have HO172 := n1_
  have HO179 := n2_
  have HB := n3_
  clear n0_ n1_ n2_ n3_
  have hHeld := trivial
  refine norm_ (a' := ?_) ?_ ?_
  rotate_left
  {
  simp only [putAll, Act.put, List.setIfInBounds_toArray, List.set_cons_zero, List.set_cons_succ]
  rfl
  }
  refine two_ (i := 3) (j := 5) (Ni := some 39) (Nj := some 41) #[true, true, true, true, true, false, false, false, false, false, false, false, false, false, false, false, false, false, false, false, false, false, false, false, false, false, false, false, false, false] #[true, true, true, false, true, true, false, false, false, false, false, false, false, false, false, false, false, false, false, false, false, false, false, false, false, false, false, false, false, false] rfl rfl rfl rfl (two_of HT_.out (by kernel_rfl)) (by decide) (by decide) (fun K hK => ?_) (fun K hK => ?_)
  {
  skip
  have hcv36 := Kd.C_string (P := Try.prog) (A := A1) (c := c1) Try.underlying27 Try.underlying5 Try.underlying9 (Kd.C_below HR1.out HB.out); have hcv36N := fun m_ => Kd.C_string (P := Try.prog) (A := A1) (c := c1) Try.underlying27 Try.underlying5 Try.underlying9 (Kd.C_drewN (Kd.C_below HR1.out HB.out) m_)
  refine value_ (w1 := ?_) (v := ?_) (by rfl) rfl ?_ ?_
  rotate_left 2
  {
  go_simp
  constructor
  {
  rfl
  }
  {
  rfl
  }
  }
  clear hcv36
  refine hK.out _ _ trivial (fun hHeld => ?_)
  clear hK K
  refine norm_ (a' := ?_) ?_ ?_
  rotate_left
  {
  show Act.put _ (some 39) _ = _
  simp only [Act.put, List.setIfInBounds_toArray, List.set_cons_zero, List.set_cons_succ, i64_w, i32_w]
  rfl
  }
  exact norm_ (by first | (simp only [putAll, Act.put, List.setIfInBounds_toArray, List.set_cons_zero, List.set_cons_succ]; done) | (simp only [putAll, Act.put, List.setIfInBounds_toArray, List.set_cons_zero, List.set_cons_succ]; rfl)) (hJ1_3 () _ ⟨HO165.out, HO172.out, HO179.out, (by repeat (first | (with_reducible first | exact HB.out | apply below_alloc | apply pw_below_drewN | apply below_drew1) | exact HB.out))⟩)
  }
  {
  skip
  refine goes_ Try.func12 (by kernel_rfl) rfl #[.int .u64 a0] (by rfl) rfl rfl (by (try simp only [List.map_toArray, List.map_cons, List.map_nil]); first | done | rfl | (simp only [List.length_drop, List.length_take]; rfl)) ?_
  with_reducible refine (ferruleref4_Put.calls k a0 t180 _ A25.out).mono ?_
  rintro e w36 ⟨v181, rfl, ho0, hb⟩
  refine ⟨_, rfl, ?_⟩
  have n0_ := Aside0.mk (Kd.Q_elder' (by (with_reducible repeat (first | apply Kd.Q_alloc | apply Kd.Q_drewN | apply Kd.Q_drew)); exact HO165.out) (Kd.R_base ho0) hb)
  have n1_ := Aside0.mk (Kd.R_elder' (by (with_reducible repeat (first | apply Kd.R_alloc | apply Kd.R_drewN | apply Kd.R_drew)); exact HO172.out) (Kd.R_base ho0) hb)
  have n2_ := Aside0.mk (Kd.R_elder' (by (with_reducible repeat (first | apply Kd.R_alloc | apply Kd.R_drewN | apply Kd.R_drew)); exact HO179.out) (Kd.R_base ho0) hb)
  have n3_ := Aside0.mk (Kd.R_lower (Kd.R_new' (Kd.R_new' (Kd.R_new' ho0 (Kd.Q_lt (by (with_reducible repeat (first | apply Kd.Q_alloc | apply Kd.Q_drewN | apply Kd.Q_drew)); exact HO165.out))) (Kd.R_lt (by (with_reducible repeat (first | apply Kd.R_alloc | apply Kd.R_drewN | apply Kd.R_drew)); exact HO172.out))) (Kd.R_lt (by (with_reducible repeat (first | apply Kd.R_alloc | apply Kd.R_drewN | apply Kd.R_drew)); exact HO179.out))) (below_size (by repeat (first | (with_reducible first | exact HB.out | apply below_alloc | apply pw_below_drewN | apply below_drew1) | exact HB.out))))
  have n4_ := Aside0.mk (below_step (by repeat (first | (with_reducible first | exact HB.out | apply below_alloc | apply pw_below_drewN | apply below_drew1) | exact HB.out)) hb)
  clear HO165
  clear HO172
  clear HO179
  clear HB
  have HO165 := n0_
  have HO172 := n1_
  have HO179 := n2_
  have HO182 := n3_
  have HB := n4_
  clear n0_ n1_ n2_ n3_ n4_
  (try clear hb)
  (try clear hb2)
  (try clear hk)
  (try clear hi)
  (try clear ho0)
  refine hK.out _ _ trivial (fun hHeld => ?_)
  clear hK K
  refine norm_ (a' := ?_) ?_ ?_
  rotate_left
  {
  show Act.put _ (some 41) _ = _
  simp only [Act.put, List.setIfInBounds_toArray, List.set_cons_zero, List.set_cons_succ, i64_w, i32_w]
  rfl
  }
  exact norm_ (by first | (simp only [putAll, Act.put, List.setIfInBounds_toArray, List.set_cons_zero, List.set_cons_succ]; done) | (simp only [putAll, Act.put, List.setIfInBounds_toArray, List.set_cons_zero, List.set_cons_succ]; rfl)) (hJ1_5 (v181) _ ⟨Kd.Q_mono HO165.out (fun _ hk => ⟨hk.1.1, ⟨hk.1.2, hk.2⟩⟩), Kd.R_mono HO172.out (fun _ hk => ⟨hk.1.1, ⟨hk.1.2, hk.2⟩⟩), Kd.R_mono HO179.out (fun _ hk => ⟨hk.1.1, ⟨hk.1.2, hk.2⟩⟩), Kd.R_mono HO182.out (fun _ hk => ⟨hk.1.1.2, ⟨hk.1.2, hk.2⟩⟩), (by repeat (first | (with_reducible first | exact HB.out | apply below_alloc | apply pw_below_drewN | apply below_drew1) | exact HB.out))⟩)
  }
  }
  }
  {
  skip
  rintro v181 w36 ⟨h0_, h1_, h2_, h3_, h4_⟩
  have n0_ : Aside0 (Kd.Q (Kd.int .u8) 5 w36 w.heap.size (fun k_ => some k_ ≠ (v171 : Value).ownBlock ∧ some k_ ≠ (v178 : Value).ownBlock ∧ some k_ ≠ (v181 : Value).ownBlock) (.slice Ao21 y163.length co21) y163) := ⟨h0_⟩
  have n1_ : Aside0 (Kd.R (Kd.int .u8) 5 w36 w.heap.size (fun k_ => some k_ ≠ (.slice Ao21 y163.length co21 : Value).ownBlock ∧ some k_ ≠ (v178 : Value).ownBlock ∧ some k_ ≠ (v181 : Value).ownBlock) v171 t170) := ⟨h1_⟩
  have n2_ : Aside0 (Kd.R (Kd.int .u8) 5 w36 w.heap.size (fun k_ => some k_ ≠ (.slice Ao21 y163.length co21 : Value).ownBlock ∧ some k_ ≠ (v171 : Value).ownBlock ∧ some k_ ≠ (v181 : Value).ownBlock) v178 t177) := ⟨h2_⟩
  have n3_ : Aside0 (Kd.R (Kd.int .u8) 5 w36 w.heap.size (fun k_ => some k_ ≠ (.slice Ao21 y163.length co21 : Value).ownBlock ∧ some k_ ≠ (v171 : Value).ownBlock ∧ some k_ ≠ (v178 : Value).ownBlock) v181 t180) := ⟨h3_⟩
  have n4_ : Aside0 (Below w.heap.size w w36) := ⟨h4_⟩
  clear HO165
  clear HO172
  clear HO179
  clear HR169
  clear HR176
  clear HB
  clear h0_ h1_ h2_ h3_ h4_
  have HO165 := n0_
  have HO172 := n1_
  have HO179 := n2_
  have HO182 := n3_
  have HB := n4_
  clear n0_ n1_ n2_ n3_ n4_
  have hHeld := trivial
  refine norm_ (a' := ?_) ?_ ?_
  rotate_left
  {
  simp only [putAll, Act.put, List.setIfInBounds_toArray, List.set_cons_zero, List.set_cons_succ]
  rfl
  }
  refine two_ (i := 1) (j := 3) (Ni := some 37) (Nj := some 39) #[true, true, true, false, true, true, true, false, false, false, false, false, false, false, false, false, false, false, false, false, false, false, false, false, false, false, false, false, false, false] #[true, false, true, true, true, true, true, false, false, false, false, false, false, false, false, false, false, false, false, false, false, false, false, false, false, false, false, false, false, false] rfl rfl rfl rfl (two_of HT_.out (by kernel_rfl)) (by decide) (by decide) (fun K hK => ?_) (fun K hK => ?_)
  {
  skip
  have hcv37 := own_string (P := Try.prog) Try.underlying27 Try.underlying5 Try.underlying9 (Kd.own_of_R HO172.out)
  refine value_ (w1 := ?_) (v := ?_) (by rfl) rfl ?_ ?_
  rotate_left 2
  {
  go_simp
  constructor
  {
  rfl
  }
  {
  rfl
  }
  }
  clear hcv37
  refine hK.out _ _ trivial (fun hHeld => ?_)
  clear hK K
  refine norm_ (a' := ?_) ?_ ?_
  rotate_left
  {
  show Act.put _ (some 37) _ = _
  simp only [Act.put, List.setIfInBounds_toArray, List.set_cons_zero, List.set_cons_succ, i64_w, i32_w]
  rfl
  }
  exact norm_ (by first | (simp only [putAll, Act.put, List.setIfInBounds_toArray, List.set_cons_zero, List.set_cons_succ]; done) | (simp only [putAll, Act.put, List.setIfInBounds_toArray, List.set_cons_zero, List.set_cons_succ]; rfl)) (hJ1_5_6 (v181) _ ⟨HO165.out, HO172.out, HO179.out, HO182.out, (by repeat (first | (with_reducible first | exact HB.out | apply below_alloc | apply pw_below_drewN | apply below_drew1) | exact HB.out))⟩)
  }
  {
  skip
  have hcv37 := Kd.C_string (P := Try.prog) (A := A1) (c := c1) Try.underlying27 Try.underlying5 Try.underlying9 (Kd.C_below HR1.out HB.out); have hcv37N := fun m_ => Kd.C_string (P := Try.prog) (A := A1) (c := c1) Try.underlying27 Try.underlying5 Try.underlying9 (Kd.C_drewN (Kd.C_below HR1.out HB.out) m_)
  refine value_ (w1 := ?_) (v := ?_) (by rfl) rfl ?_ ?_
  rotate_left 2
  {
  go_simp
  constructor
  {
  rfl
  }
  {
  rfl
  }
  }
  clear hcv37
  refine hK.out _ _ trivial (fun hHeld => ?_)
  clear hK K
  refine norm_ (a' := ?_) ?_ ?_
  rotate_left
  {
  show Act.put _ (some 39) _ = _
  simp only [Act.put, List.setIfInBounds_toArray, List.set_cons_zero, List.set_cons_succ, i64_w, i32_w]
  rfl
  }
  refine pure_ (i := 7) (N := some 43) (v := ?_) (a' := ?_) #[true, false, true, true, true, true, true, true, false, false, false, false, false, false, false, false, false, false, false, false, false, false, false, false, false, false, false, false, false, false] rfl rfl (any_of HT_.out (by kernel_rfl)) (fun _ _ _ h => h) (Or.inl ⟨by rfl, ?_⟩) ?_ ?_
  rotate_left
  {
  intro w'
  go_simp
  with_reducible rfl
  }
  rotate_left
  {
  simp only [Act.put, List.setIfInBounds_toArray, List.set_cons_zero, List.set_cons_succ, i64_w, i32_w]
  rfl
  }
  exact norm_ (by first | (simp only [putAll, Act.put, List.setIfInBounds_toArray, List.set_cons_zero, List.set_cons_succ]; done) | (simp only [putAll, Act.put, List.setIfInBounds_toArray, List.set_cons_zero, List.set_cons_succ]; rfl)) (hJ3_5_6 (v181) _ ⟨HO165.out, HO172.out, HO179.out, HO182.out, (by repeat (first | (with_reducible first | exact HB.out | apply below_alloc | apply pw_below_drewN | apply below_drew1) | exact HB.out))⟩)
  }
  }
  }
  {
  skip
  rintro v181 w36 ⟨h0_, h1_, h2_, h3_, h4_⟩
  have n0_ : Aside0 (Kd.Q (Kd.int .u8) 5 w36 w.heap.size (fun k_ => some k_ ≠ (v171 : Value).ownBlock ∧ some k_ ≠ (v178 : Value).ownBlock ∧ some k_ ≠ (v181 : Value).ownBlock) (.slice Ao21 y163.length co21) y163) := ⟨h0_⟩
  have n1_ : Aside0 (Kd.R (Kd.int .u8) 5 w36 w.heap.size (fun k_ => some k_ ≠ (.slice Ao21 y163.length co21 : Value).ownBlock ∧ some k_ ≠ (v178 : Value).ownBlock ∧ some k_ ≠ (v181 : Value).ownBlock) v171 t170) := ⟨h1_⟩
  have n2_ : Aside0 (Kd.R (Kd.int .u8) 5 w36 w.heap.size (fun k_ => some k_ ≠ (.slice Ao21 y163.length co21 : Value).ownBlock ∧ some k_ ≠ (v171 : Value).ownBlock ∧ some k_ ≠ (v181 : Value).ownBlock) v178 t177) := ⟨h2_⟩
  have n3_ : Aside0 (Kd.R (Kd.int .u8) 5 w36 w.heap.size (fun k_ => some k_ ≠ (.slice Ao21 y163.length co21 : Value).ownBlock ∧ some k_ ≠ (v171 : Value).ownBlock ∧ some k_ ≠ (v178 : Value).ownBlock) v181 t180) := ⟨h3_⟩
  have n4_ : Aside0 (Below w.heap.size w w36) := ⟨h4_⟩
  clear HO165
  clear HO172
  clear HO179
  clear HR169
  clear HR176
  clear HB
  clear h0_ h1_ h2_ h3_ h4_
  have HO165 := n0_
  have HO172 := n1_
  have HO179 := n2_
  have HO182 := n3_
  have HB := n4_
  clear n0_ n1_ n2_ n3_ n4_
  have hHeld := trivial
  refine norm_ (a' := ?_) ?_ ?_
  rotate_left
  {
  simp only [putAll, Act.put, List.setIfInBounds_toArray, List.set_cons_zero, List.set_cons_succ]
  rfl
  }
  refine two_ (i := 1) (j := 6) (Ni := some 37) (Nj := some 42) #[true, true, true, true, true, true, false, false, false, false, false, false, false, false, false, false, false, false, false, false, false, false, false, false, false, false, false, false, false, false] #[true, false, true, true, true, true, true, false, false, false, false, false, false, false, false, false, false, false, false, false, false, false, false, false, false, false, false, false, false, false] rfl rfl rfl rfl (two_of HT_.out (by kernel_rfl)) (by decide) (by decide) (fun K hK => ?_) (fun K hK => ?_)
  {
  skip
  have hcv37 := own_string (P := Try.prog) Try.underlying27 Try.underlying5 Try.underlying9 (Kd.own_of_R HO172.out)
  refine value_ (w1 := ?_) (v := ?_) (by rfl) rfl ?_ ?_
  rotate_left 2
  {
  go_simp
  constructor
  {
  rfl
  }
  {
  rfl
  }
  }
  clear hcv37
  refine hK.out _ _ trivial (fun hHeld => ?_)
  clear hK K
  refine norm_ (a' := ?_) ?_ ?_
  rotate_left
  {
  show Act.put _ (some 37) _ = _
  simp only [Act.put, List.setIfInBounds_toArray, List.set_cons_zero, List.set_cons_succ, i64_w, i32_w]
  rfl
  }
  exact norm_ (by first | (simp only [putAll, Act.put, List.setIfInBounds_toArray, List.set_cons_zero, List.set_cons_succ]; done) | (simp only [putAll, Act.put, List.setIfInBounds_toArray, List.set_cons_zero, List.set_cons_succ]; rfl)) (hJ1_3_5 (v181) _ ⟨HO165.out, HO172.out, HO179.out, HO182.out, (by repeat (first | (with_reducible first | exact HB.out | apply below_alloc | apply pw_below_drewN | apply below_drew1) | exact HB.out))⟩)
  }
  {
  skip
  have hcv37 := own_string (P := Try.prog) Try.underlying27 Try.underlying5 Try.underlying9 (Kd.own_of_R HO182.out)
  refine value_ (w1 := ?_) (v := ?_) (by rfl) rfl ?_ ?_
  rotate_left 2
  {
  go_simp
  constructor
  {
  rfl
  }
  {
  rfl
  }
  }
  clear hcv37
  refine hK.out _ _ trivial (fun hHeld => ?_)
  clear hK K
  refine norm_ (a' := ?_) ?_ ?_
  rotate_left
  {
  show Act.put _ (some 42) _ = _
  simp only [Act.put, List.setIfInBounds_toArray, List.set_cons_zero, List.set_cons_succ, i64_w, i32_w]
  rfl
  }
  refine pure_ (i := 7) (N := some 43) (v := ?_) (a' := ?_) #[true, false, true, true, true, true, true, true, false, false, false, false, false, false, false, false, false, false, false, false, false, false, false, false, false, false, false, false, false, false] rfl rfl (any_of HT_.out (by kernel_rfl)) (fun _ _ _ h => h) (Or.inl ⟨by rfl, ?_⟩) ?_ ?_
  rotate_left
  {
  intro w'
  go_simp
  with_reducible rfl
  }
  rotate_left
  {
  simp only [Act.put, List.setIfInBounds_toArray, List.set_cons_zero, List.set_cons_succ, i64_w, i32_w]
  rfl
  }
  exact norm_ (by first | (simp only [putAll, Act.put, List.setIfInBounds_toArray, List.set_cons_zero, List.set_cons_succ]; done) | (simp only [putAll, Act.put, List.setIfInBounds_toArray, List.set_cons_zero, List.set_cons_succ]; rfl)) (hJ3_5_6 (v181) _ ⟨HO165.out, HO172.out, HO179.out, HO182.out, (by repeat (first | (with_reducible first | exact HB.out | apply below_alloc | apply pw_below_drewN | apply below_drew1) | exact HB.out))⟩)
  }
  }
  }
  {
  skip
  rintro v181 w36 ⟨h0_, h1_, h2_, h3_, h4_⟩
  have n0_ : Aside0 (Kd.Q (Kd.int .u8) 5 w36 w.heap.size (fun k_ => some k_ ≠ (v171 : Value).ownBlock ∧ some k_ ≠ (v178 : Value).ownBlock ∧ some k_ ≠ (v181 : Value).ownBlock) (.slice Ao21 y163.length co21) y163) := ⟨h0_⟩
  have n1_ : Aside0 (Kd.R (Kd.int .u8) 5 w36 w.heap.size (fun k_ => some k_ ≠ (.slice Ao21 y163.length co21 : Value).ownBlock ∧ some k_ ≠ (v178 : Value).ownBlock ∧ some k_ ≠ (v181 : Value).ownBlock) v171 t170) := ⟨h1_⟩
  have n2_ : Aside0 (Kd.R (Kd.int .u8) 5 w36 w.heap.size (fun k_ => some k_ ≠ (.slice Ao21 y163.length co21 : Value).ownBlock ∧ some k_ ≠ (v171 : Value).ownBlock ∧ some k_ ≠ (v181 : Value).ownBlock) v178 t177) := ⟨h2_⟩
  have n3_ : Aside0 (Kd.R (Kd.int .u8) 5 w36 w.heap.size (fun k_ => some k_ ≠ (.slice Ao21 y163.length co21 : Value).ownBlock ∧ some k_ ≠ (v171 : Value).ownBlock ∧ some k_ ≠ (v178 : Value).ownBlock) v181 t180) := ⟨h3_⟩
  have n4_ : Aside0 (Below w.heap.size w w36) := ⟨h4_⟩
  clear HO165
  clear HO172
  clear HO179
  clear HR169
  clear HR176
  clear HB
  clear h0_ h1_ h2_ h3_ h4_
  have HO165 := n0_
  have HO172 := n1_
  have HO179 := n2_
  have HO182 := n3_
  have HB := n4_
  clear n0_ n1_ n2_ n3_ n4_
  have hHeld := trivial
  refine norm_ (a' := ?_) ?_ ?_
  rotate_left
  {
  simp only [putAll, Act.put, List.setIfInBounds_toArray, List.set_cons_zero, List.set_cons_succ]
  rfl
  }
  refine two_ (i := 3) (j := 6) (Ni := some 39) (Nj := some 42) #[true, true, true, true, true, true, false, false, false, false, false, false, false, false, false, false, false, false, false, false, false, false, false, false, false, false, false, false, false, false] #[true, true, true, false, true, true, true, false, false, false, false, false, false, false, false, false, false, false, false, false, false, false, false, false, false, false, false, false, false, false] rfl rfl rfl rfl (two_of HT_.out (by kernel_rfl)) (by decide) (by decide) (fun K hK => ?_) (fun K hK => ?_)
  {
  skip
  have hcv37 := Kd.C_string (P := Try.prog) (A := A1) (c := c1) Try.underlying27 Try.underlying5 Try.underlying9 (Kd.C_below HR1.out HB.out); have hcv37N := fun m_ => Kd.C_string (P := Try.prog) (A := A1) (c := c1) Try.underlying27 Try.underlying5 Try.underlying9 (Kd.C_drewN (Kd.C_below HR1.out HB.out) m_)
  refine value_ (w1 := ?_) (v := ?_) (by rfl) rfl ?_ ?_
  rotate_left 2
  {
  go_simp
  constructor
  {
  rfl
  }
  {
  rfl
  }
  }
  clear hcv37
  refine hK.out _ _ trivial (fun hHeld => ?_)
  clear hK K
  refine norm_ (a' := ?_) ?_ ?_
  rotate_left
  {
  show Act.put _ (some 39) _ = _
  simp only [Act.put, List.setIfInBounds_toArray, List.set_cons_zero, List.set_cons_succ, i64_w, i32_w]
  rfl
  }
  exact norm_ (by first | (simp only [putAll, Act.put, List.setIfInBounds_toArray, List.set_cons_zero, List.set_cons_succ]; done) | (simp only [putAll, Act.put, List.setIfInBounds_toArray, List.set_cons_zero, List.set_cons_succ]; rfl)) (hJ1_3_5 (v181) _ ⟨HO165.out, HO172.out, HO179.out, HO182.out, (by repeat (first | (with_reducible first | exact HB.out | apply below_alloc | apply pw_below_drewN | apply below_drew1) | exact HB.out))⟩)
  }
  {
  skip
  have hcv37 := own_string (P := Try.prog) Try.underlying27 Try.underlying5 Try.underlying9 (Kd.own_of_R HO182.out)
  refine value_ (w1 := ?_) (v := ?_) (by rfl) rfl ?_ ?_
  rotate_left 2
  {
  go_simp
  constructor
  {
  rfl
  }
  {
  rfl
  }
  }
  clear hcv37
  refine hK.out _ _ trivial (fun hHeld => ?_)
  clear hK K
  refine norm_ (a' := ?_) ?_ ?_
  rotate_left
  {
  show Act.put _ (some 42) _ = _
  simp only [Act.put, List.setIfInBounds_toArray, List.set_cons_zero, List.set_cons_succ, i64_w, i32_w]
  rfl
  }
  exact norm_ (by first | (simp only [putAll, Act.put, List.setIfInBounds_toArray, List.set_cons_zero, List.set_cons_succ]; done) | (simp only [putAll, Act.put, List.setIfInBounds_toArray, List.set_cons_zero, List.set_cons_succ]; rfl)) (hJ1_5_6 (v181) _ ⟨HO165.out, HO172.out, HO179.out, HO182.out, (by repeat (first | (with_reducible first | exact HB.out | apply below_alloc | apply pw_below_drewN | apply below_drew1) | exact HB.out))⟩)
  }
  }
  }
  {
  skip
  rintro _ w36 ⟨h0_, h1_, h2_, h3_⟩
  have n0_ : Aside0 (Kd.Q (Kd.int .u8) 5 w36 w.heap.size (fun k_ => some k_ ≠ (v171 : Value).ownBlock ∧ some k_ ≠ (v178 : Value).ownBlock) (.slice Ao21 y163.length co21) y163) := ⟨h0_⟩
  have n1_ : Aside0 (Kd.R (Kd.int .u8) 5 w36 w.heap.size (fun k_ => some k_ ≠ (.slice Ao21 y163.length co21 : Value).ownBlock ∧ some k_ ≠ (v178 : Value).ownBlock) v171 t170) := ⟨h1_⟩
  have n2_ : Aside0 (Kd.R (Kd.int .u8) 5 w36 w.heap.size (fun k_ => some k_ ≠ (.slice Ao21 y163.length co21 : Value).ownBlock ∧ some k_ ≠ (v171 : Value).ownBlock) v178 t177) := ⟨h2_⟩
  have n3_ : Aside0 (Below w.heap.size w w36) := ⟨h3_⟩
  clear HO165
  clear HO172
  clear HO179
  clear HR169
  clear HR176
  clear HB
  clear h0_ h1_ h2_ h3_
  have HO165 := n0_
  have HO172 := n1_
  have HO179 := n2_
  have HB := n3_
  clear n0_ n1_ n2_ n3_
  have hHeld := trivial
  refine norm_ (a' := ?_) ?_ ?_
  rotate_left
  {
  simp only [putAll, Act.put, List.setIfInBounds_toArray, List.set_cons_zero, List.set_cons_succ]
  rfl
  }
  refine one_ (i := 5) (N := some 41) #[true, true, true, true, true, true, false, false, false, false, false, false, false, false, false, false, false, false, false, false, false, false, false, false, false, false, false, false, false, false] rfl rfl (one_of HT_.out (by kernel_rfl)) (by decide) (fun K hK => ?_)
  refine goes_ Try.func12 (by kernel_rfl) rfl #[.int .u64 a0] (by rfl) rfl rfl (by (try simp only [List.map_toArray, List.map_cons, List.map_nil]); first | done | rfl | (simp only [List.length_drop, List.length_take]; rfl)) ?_
  with_reducible refine (ferruleref4_Put.calls k a0 t180 _ A25.out).mono ?_
  rintro e w37 ⟨v181, rfl, ho0, hb⟩
  refine ⟨_, rfl, ?_⟩
  have n0_ := Aside0.mk (Kd.Q_elder' (by (with_reducible repeat (first | apply Kd.Q_alloc | apply Kd.Q_drewN | apply Kd.Q_drew)); exact HO165.out) (Kd.R_base ho0) hb)
  have n1_ := Aside0.mk (Kd.R_elder' (by (with_reducible repeat (first | apply Kd.R_alloc | apply Kd.R_drewN | apply Kd.R_drew)); exact HO172.out) (Kd.R_base ho0) hb)
  have n2_ := Aside0.mk (Kd.R_elder' (by (with_reducible repeat (first | apply Kd.R_alloc | apply Kd.R_drewN | apply Kd.R_drew)); exact HO179.out) (Kd.R_base ho0) hb)
  have n3_ := Aside0.mk (Kd.R_lower (Kd.R_new' (Kd.R_new' (Kd.R_new' ho0 (Kd.Q_lt (by (with_reducible repeat (first | apply Kd.Q_alloc | apply Kd.Q_drewN | apply Kd.Q_drew)); exact HO165.out))) (Kd.R_lt (by (with_reducible repeat (first | apply Kd.R_alloc | apply Kd.R_drewN | apply Kd.R_drew)); exact HO172.out))) (Kd.R_lt (by (with_reducible repeat (first | apply Kd.R_alloc | apply Kd.R_drewN | apply Kd.R_drew)); exact HO179.out))) (below_size (by repeat (first | (with_reducible first | exact HB.out | apply below_alloc | apply pw_below_drewN | apply below_drew1) | exact HB.out))))
  have n4_ := Aside0.mk (below_step (by repeat (first | (with_reducible first | exact HB.out | apply below_alloc | apply pw_below_drewN | apply below_drew1) | exact HB.out)) hb)
  clear HO165
  clear HO172
  clear HO179
  clear HB
  have HO165 := n0_
  have HO172 := n1_
  have HO179 := n2_
  have HO182 := n3_
  have HB := n4_
  clear n0_ n1_ n2_ n3_ n4_
  (try clear hb)
  (try clear hb2)
  (try clear hk)
  (try clear hi)
  (try clear ho0)
  refine hK.out _ _ trivial (fun hHeld => ?_)
  clear hK K
  refine norm_ (a' := ?_) ?_ ?_
  rotate_left
  {
  show Act.put _ (some 41) _ = _
  simp only [Act.put, List.setIfInBounds_toArray, List.set_cons_zero, List.set_cons_succ, i64_w, i32_w]
  rfl
  }
  exact norm_ (by first | (simp only [putAll, Act.put, List.setIfInBounds_toArray, List.set_cons_zero, List.set_cons_succ]; done) | (simp only [putAll, Act.put, List.setIfInBounds_toArray, List.set_cons_zero, List.set_cons_succ]; rfl)) (hJ1_3_5 (v181) _ ⟨Kd.Q_mono HO165.out (fun _ hk => ⟨hk.1.1, ⟨hk.1.2, hk.2⟩⟩), Kd.R_mono HO172.out (fun _ hk => ⟨hk.1.1, ⟨hk.1.2, hk.2⟩⟩), Kd.R_mono HO179.out (fun _ hk => ⟨hk.1.1, ⟨hk.1.2, hk.2⟩⟩), Kd.R_mono HO182.out (fun _ hk => ⟨hk.1.1.2, ⟨hk.1.2, hk.2⟩⟩), (by repeat (first | (with_reducible first | exact HB.out | apply below_alloc | apply pw_below_drewN | apply below_drew1) | exact HB.out))⟩)
  }
  }
  {
  skip
  rintro v181 w37 ⟨h0_, h1_, h2_, h3_, h4_⟩
  have n0_ : Aside0 (Kd.Q (Kd.int .u8) 5 w37 w.heap.size (fun k_ => some k_ ≠ (v171 : Value).ownBlock ∧ some k_ ≠ (v178 : Value).ownBlock ∧ some k_ ≠ (v181 : Value).ownBlock) (.slice Ao21 y163.length co21) y163) := ⟨h0_⟩
  have n1_ : Aside0 (Kd.R (Kd.int .u8) 5 w37 w.heap.size (fun k_ => some k_ ≠ (.slice Ao21 y163.length co21 : Value).ownBlock ∧ some k_ ≠ (v178 : Value).ownBlock ∧ some k_ ≠ (v181 : Value).ownBlock) v171 t170) := ⟨h1_⟩
  have n2_ : Aside0 (Kd.R (Kd.int .u8) 5 w37 w.heap.size (fun k_ => some k_ ≠ (.slice Ao21 y163.length co21 : Value).ownBlock ∧ some k_ ≠ (v171 : Value).ownBlock ∧ some k_ ≠ (v181 : Value).ownBlock) v178 t177) := ⟨h2_⟩
  have n3_ : Aside0 (Kd.R (Kd.int .u8) 5 w37 w.heap.size (fun k_ => some k_ ≠ (.slice Ao21 y163.length co21 : Value).ownBlock ∧ some k_ ≠ (v171 : Value).ownBlock ∧ some k_ ≠ (v178 : Value).ownBlock) v181 t180) := ⟨h3_⟩
  have n4_ : Aside0 (Below w.heap.size w w37) := ⟨h4_⟩
  clear HO165
  clear HO172
  clear HO179
  clear HR169
  clear HR176
  clear HB
  clear h0_ h1_ h2_ h3_ h4_
  have HO165 := n0_
  have HO172 := n1_
  have HO179 := n2_
  have HO182 := n3_
  have HB := n4_
  clear n0_ n1_ n2_ n3_ n4_
  have hHeld := trivial
  refine norm_ (a' := ?_) ?_ ?_
  rotate_left
  {
  simp only [putAll, Act.put, List.setIfInBounds_toArray, List.set_cons_zero, List.set_cons_succ]
  rfl
  }
  refine one_ (i := 1) (N := some 37) #[true, true, true, true, true, true, true, true, false, false, false, false, false, false, false, false, false, false, false, false, false, false, false, false, false, false, false, false, false, false] rfl rfl (one_of HT_.out (by kernel_rfl)) (by decide) (fun K hK => ?_)
  have hcv38 := own_string (P := Try.prog) Try.underlying27 Try.underlying5 Try.underlying9 (Kd.own_of_R HO172.out)
  refine value_ (w1 := ?_) (v := ?_) (by rfl) rfl ?_ ?_
  rotate_left 2
  {
  go_simp
  constructor
  {
  rfl
  }
  {
  rfl
  }
  }
  clear hcv38
  refine hK.out _ _ trivial (fun hHeld => ?_)
  clear hK K
  refine norm_ (a' := ?_) ?_ ?_
  rotate_left
  {
  show Act.put _ (some 37) _ = _
  simp only [Act.put, List.setIfInBounds_toArray, List.set_cons_zero, List.set_cons_succ, i64_w, i32_w]
  rfl
  }
  refine pure_ (i := 8) (N := some 44) (v := ?_) (a' := ?_) #[true, true, true, true, true, true, true, true, true, false, false, false, false, false, false, false, false, false, false, false, false, false, false, false, false, false, false, false, false, false] rfl rfl (any_of HT_.out (by kernel_rfl)) (fun _ _ _ h => h) (Or.inl ⟨by rfl, ?_⟩) ?_ ?_
  rotate_left
  {
  intro w'
  go_simp
  with_reducible rfl
  }
  rotate_left
  {
  simp only [Act.put, List.setIfInBounds_toArray, List.set_cons_zero, List.set_cons_succ, i64_w, i32_w]
  rfl
  }
  refine pure_ (i := 9) (N := some 45) (v := ?_) (a' := ?_) #[true, true, true, true, true, true, true, true, true, true, false, false, false, false, false, false, false, false, false, false, false, false, false, false, false, false, false, false, false, false] rfl rfl (any_of HT_.out (by kernel_rfl)) (fun _ _ _ h => h) (Or.inl ⟨by rfl, ?_⟩) ?_ ?_
  rotate_left
  {
  intro w'
  go_simp
  with_reducible rfl
  }
  rotate_left
  {
  simp only [Act.put, List.setIfInBounds_toArray, List.set_cons_zero, List.set_cons_succ, i64_w, i32_w]
  rfl
  }
  refine pure_ (i := 10) (N := some 46) (v := ?_) (a' := ?_) #[true, true, true, true, true, true, true, true, true, true, true, false, false, false, false, false, false, false, false, false, false, false, false, false, false, false, false, false, false, false] rfl rfl (any_of HT_.out (by kernel_rfl)) (fun _ _ _ h => h) (Or.inl ⟨by rfl, ?_⟩) ?_ ?_
  rotate_left
  {
  intro w'
  go_simp
  with_reducible rfl
  }
  rotate_left
  {
  simp only [Act.put, List.setIfInBounds_toArray, List.set_cons_zero, List.set_cons_succ, i64_w, i32_w]
  rfl
  }
  refine pure_ (i := 12) (N := some 48) (v := ?_) (a' := ?_) #[true, true, true, true, true, true, true, true, true, true, true, false, true, false, false, false, false, false, false, false, false, false, false, false, false, false, false, false, false, false] rfl rfl (any_of HT_.out (by kernel_rfl)) (fun _ _ _ h => h) (Or.inl ⟨by rfl, ?_⟩) ?_ ?_
  rotate_left
  {
  intro w'
  go_simp
  with_reducible rfl
  }
  rotate_left
  {
  simp only [Act.put, List.setIfInBounds_toArray, List.set_cons_zero, List.set_cons_succ, i64_w, i32_w]
  rfl
  }
  refine pure_ (i := 14) (N := some 50) (v := ?_) (a' := ?_) #[true, true, true, true, true, true, true, true, true, true, true, false, true, false, true, false, false, false, false, false, false, false, false, false, false, false, false, false, false, false] rfl rfl (any_of HT_.out (by kernel_rfl)) (fun _ _ _ h => h) (Or.inl ⟨by rfl, ?_⟩) ?_ ?_
  rotate_left
  {
  intro w'
  go_simp
  with_reducible rfl
  }
  rotate_left
  {
  simp only [Act.put, List.setIfInBounds_toArray, List.set_cons_zero, List.set_cons_succ, i64_w, i32_w]
  rfl
  }
  refine pure_ (i := 15) (N := some 51) (v := ?_) (a' := ?_) #[true, true, true, true, true, true, true, true, true, true, true, false, true, false, true, true, false, false, false, false, false, false, false, false, false, false, false, false, false, false] rfl rfl (any_of HT_.out (by kernel_rfl)) (fun _ _ _ h => h) (Or.inl ⟨by rfl, ?_⟩) ?_ ?_
  rotate_left
  {
  intro w'
  go_simp
  with_reducible rfl
  }
  rotate_left
  {
  simp only [Act.put, List.setIfInBounds_toArray, List.set_cons_zero, List.set_cons_succ, i64_w, i32_w]
  rfl
  }
  exact norm_ (by first | (simp only [putAll, Act.put, List.setIfInBounds_toArray, List.set_cons_zero, List.set_cons_succ]; done) | (simp only [putAll, Act.put, List.setIfInBounds_toArray, List.set_cons_zero, List.set_cons_succ]; rfl)) (hJ1_3_5_6 (v181) _ ⟨HO165.out, HO172.out, HO179.out, HO182.out, (by repeat (first | (with_reducible first | exact HB.out | apply below_alloc | apply pw_below_drewN | apply below_drew1) | exact HB.out))⟩)
  }
  }
  {
  skip
  rintro v181 w37 ⟨h0_, h1_, h2_, h3_, h4_⟩
  have n0_ : Aside0 (Kd.Q (Kd.int .u8) 5 w37 w.heap.size (fun k_ => some k_ ≠ (v171 : Value).ownBlock ∧ some k_ ≠ (v178 : Value).ownBlock ∧ some k_ ≠ (v181 : Value).ownBlock) (.slice Ao21 y163.length co21) y163) := ⟨h0_⟩
  have n1_ : Aside0 (Kd.R (Kd.int .u8) 5 w37 w.heap.size (fun k_ => some k_ ≠ (.slice Ao21 y163.length co21 : Value).ownBlock ∧ some k_ ≠ (v178 : Value).ownBlock ∧ some k_ ≠ (v181 : Value).ownBlock) v171 t170) := ⟨h1_⟩
  have n2_ : Aside0 (Kd.R (Kd.int .u8) 5 w37 w.heap.size (fun k_ => some k_ ≠ (.slice Ao21 y163.length co21 : Value).ownBlock ∧ some k_ ≠ (v171 : Value).ownBlock ∧ some k_ ≠ (v181 : Value).ownBlock) v178 t177) := ⟨h2_⟩
  have n3_ : Aside0 (Kd.R (Kd.int .u8) 5 w37 w.heap.size (fun k_ => some k_ ≠ (.slice Ao21 y163.length co21 : Value).ownBlock ∧ some k_ ≠ (v171 : Value).ownBlock ∧ some k_ ≠ (v178 : Value).ownBlock) v181 t180) := ⟨h3_⟩
  have n4_ : Aside0 (Below w.heap.size w w37) := ⟨h4_⟩
  clear HO165
  clear HO172
  clear HO179
  clear HR169
  clear HR176
  clear HB
  clear h0_ h1_ h2_ h3_ h4_
  have HO165 := n0_
  have HO172 := n1_
  have HO179 := n2_
  have HO182 := n3_
  have HB := n4_
  clear n0_ n1_ n2_ n3_ n4_
  have hHeld := trivial
  refine norm_ (a' := ?_) ?_ ?_
  rotate_left
  {
  simp only [putAll, Act.put, List.setIfInBounds_toArray, List.set_cons_zero, List.set_cons_succ]
  rfl
  }
  refine one_ (i := 3) (N := some 39) #[true, true, true, true, true, true, true, false, false, false, false, false, false, false, false, false, false, false, false, false, false, false, false, false, false, false, false, false, false, false] rfl rfl (one_of HT_.out (by kernel_rfl)) (by decide) (fun K hK => ?_)
  have hcv38 := Kd.C_string (P := Try.prog) (A := A1) (c := c1) Try.underlying27 Try.underlying5 Try.underlying9 (Kd.C_below HR1.out HB.out); have hcv38N := fun m_ => Kd.C_string (P := Try.prog) (A := A1) (c := c1) Try.underlying27 Try.underlying5 Try.underlying9 (Kd.C_drewN (Kd.C_below HR1.out HB.out) m_)
  refine value_ (w1 := ?_) (v := ?_) (by rfl) rfl ?_ ?_
  rotate_left 2
  {
  go_simp
  constructor
  {
  rfl
  }
  {
  rfl
  }
  }
  clear hcv38
  refine hK.out _ _ trivial (fun hHeld => ?_)
  clear hK K
  refine norm_ (a' := ?_) ?_ ?_
  rotate_left
  {
  show Act.put _ (some 39) _ = _
  simp only [Act.put, List.setIfInBounds_toArray, List.set_cons_zero, List.set_cons_succ, i64_w, i32_w]
  rfl
  }
  refine pure_ (i := 7) (N := some 43) (v := ?_) (a' := ?_) #[true, true, true, true, true, true, true, true, false, false, false, false, false, false, false, false, false, false, false, false, false, false, false, false, false, false, false, false, false, false] rfl rfl (any_of HT_.out (by kernel_rfl)) (fun _ _ _ h => h) (Or.inl ⟨by rfl, ?_⟩) ?_ ?_
  rotate_left
  {
  intro w'
  go_simp
  with_reducible rfl
  }
  rotate_left
  {
  simp only [Act.put, List.setIfInBounds_toArray, List.set_cons_zero, List.set_cons_succ, i64_w, i32_w]
  rfl
  }
  refine pure_ (i := 8) (N := some 44) (v := ?_) (a' := ?_) #[true, true, true, true, true, true, true, true, true, false, false, false, false, false, false, false, false, false, false, false, false, false, false, false, false, false, false, false, false, false] rfl rfl (any_of HT_.out (by kernel_rfl)) (fun _ _ _ h => h) (Or.inl ⟨by rfl, ?_⟩) ?_ ?_
  rotate_left
  {
  intro w'
  go_simp
  with_reducible rfl
  }
  rotate_left
  {
  simp only [Act.put, List.setIfInBounds_toArray, List.set_cons_zero, List.set_cons_succ, i64_w, i32_w]
  rfl
  }
  refine pure_ (i := 9) (N := some 45) (v := ?_) (a' := ?_) #[true, true, true, true, true, true, true, true, true, true, false, false, false, false, false, false, false, false, false, false, false, false, false, false, false, false, false, false, false, false] rfl rfl (any_of HT_.out (by kernel_rfl)) (fun _ _ _ h => h) (Or.inl ⟨by rfl, ?_⟩) ?_ ?_
  rotate_left
  {
  intro w'
  go_simp
  with_reducible rfl
  }
  rotate_left
  {
  simp only [Act.put, List.setIfInBounds_toArray, List.set_cons_zero, List.set_cons_succ, i64_w, i32_w]
  rfl
  }
  refine pure_ (i := 10) (N := some 46) (v := ?_) (a' := ?_) #[true, true, true, true, true, true, true, true, true, true, true, false, false, false, false, false, false, false, false, false, false, false, false, false, false, false, false, false, false, false] rfl rfl (any_of HT_.out (by kernel_rfl)) (fun _ _ _ h => h) (Or.inl ⟨by rfl, ?_⟩) ?_ ?_
  rotate_left
  {
  intro w'
  go_simp
  with_reducible rfl
  }
  rotate_left
  {
  simp only [Act.put, List.setIfInBounds_toArray, List.set_cons_zero, List.set_cons_succ, i64_w, i32_w]
  rfl
  }
  refine pure_ (i := 12) (N := some 48) (v := ?_) (a' := ?_) #[true, true, true, true, true, true, true, true, true, true, true, false, true, false, false, false, false, false, false, false, false, false, false, false, false, false, false, false, false, false] rfl rfl (any_of HT_.out (by kernel_rfl)) (fun _ _ _ h => h) (Or.inl ⟨by rfl, ?_⟩) ?_ ?_
  rotate_left
  {
  intro w'
  go_simp
  with_reducible rfl
  }
  rotate_left
  {
  simp only [Act.put, List.setIfInBounds_toArray, List.set_cons_zero, List.set_cons_succ, i64_w, i32_w]
  rfl
  }
  refine pure_ (i := 14) (N := some 50) (v := ?_) (a' := ?_) #[true, true, true, true, true, true, true, true, true, true, true, false, true, false, true, false, false, false, false, false, false, false, false, false, false, false, false, false, false, false] rfl rfl (any_of HT_.out (by kernel_rfl)) (fun _ _ _ h => h) (Or.inl ⟨by rfl, ?_⟩) ?_ ?_
  rotate_left
  {
  intro w'
  go_simp
  with_reducible rfl
  }
  rotate_left
  {
  simp only [Act.put, List.setIfInBounds_toArray, List.set_cons_zero, List.set_cons_succ, i64_w, i32_w]
  rfl
  }
  refine pure_ (i := 15) (N := some 51) (v := ?_) (a' := ?_) #[true, true, true, true, true, true, true, true, true, true, true, false, true, false, true, true, false, false, false, false, false, false, false, false, false, false, false, false, false, false] rfl rfl (any_of HT_.out (by kernel_rfl)) (fun _ _ _ h => h) (Or.inl ⟨by rfl, ?_⟩) ?_ ?_
  rotate_left
  {
  intro w'
  go_simp
  with_reducible rfl
  }
  rotate_left
  {
  simp only [Act.put, List.setIfInBounds_toArray, List.set_cons_zero, List.set_cons_succ, i64_w, i32_w]
  rfl
  }
  exact norm_ (by first | (simp only [putAll, Act.put, List.setIfInBounds_toArray, List.set_cons_zero, List.set_cons_succ]; done) | (simp only [putAll, Act.put, List.setIfInBounds_toArray, List.set_cons_zero, List.set_cons_succ]; rfl)) (hJ1_3_5_6 (v181) _ ⟨HO165.out, HO172.out, HO179.out, HO182.out, (by repeat (first | (with_reducible first | exact HB.out | apply below_alloc | apply pw_below_drewN | apply below_drew1) | exact HB.out))⟩)
  }
  }
  {
  skip
  rintro v181 w37 ⟨h0_, h1_, h2_, h3_, h4_⟩
  have n0_ : Aside0 (Kd.Q (Kd.int .u8) 5 w37 w.heap.size (fun k_ => some k_ ≠ (v171 : Value).ownBlock ∧ some k_ ≠ (v178 : Value).ownBlock ∧ some k_ ≠ (v181 : Value).ownBlock) (.slice Ao21 y163.length co21) y163) := ⟨h0_⟩
  have n1_ : Aside0 (Kd.R (Kd.int .u8) 5 w37 w.heap.size (fun k_ => some k_ ≠ (.slice Ao21 y163.length co21 : Value).ownBlock ∧ some k_ ≠ (v178 : Value).ownBlock ∧ some k_ ≠ (v181 : Value).ownBlock) v171 t170) := ⟨h1_⟩
  have n2_ : Aside0 (Kd.R (Kd.int .u8) 5 w37 w.heap.size (fun k_ => some k_ ≠ (.slice Ao21 y163.length co21 : Value).ownBlock ∧ some k_ ≠ (v171 : Value).ownBlock ∧ some k_ ≠ (v181 : Value).ownBlock) v178 t177) := ⟨h2_⟩
  have n3_ : Aside0 (Kd.R (Kd.int .u8) 5 w37 w.heap.size (fun k_ => some k_ ≠ (.slice Ao21 y163.length co21 : Value).ownBlock ∧ some k_ ≠ (v171 : Value).ownBlock ∧ some k_ ≠ (v178 : Value).ownBlock) v181 t180) := ⟨h3_⟩
  have n4_ : Aside0 (Below w.heap.size w w37) := ⟨h4_⟩
  clear HO165
  clear HO172
  clear HO179
  clear HR169
  clear HR176
  clear HB
  clear h0_ h1_ h2_ h3_ h4_
  have HO165 := n0_
  have HO172 := n1_
  have HO179 := n2_
  have HO182 := n3_
  have HB := n4_
  clear n0_ n1_ n2_ n3_ n4_
  have hHeld := trivial
  refine norm_ (a' := ?_) ?_ ?_
  rotate_left
  {
  simp only [putAll, Act.put, List.setIfInBounds_toArray, List.set_cons_zero, List.set_cons_succ]
  rfl
  }
  refine one_ (i := 6) (N := some 42) #[true, true, true, true, true, true, true, false, false, false, false, false, false, false, false, false, false, false, false, false, false, false, false, false, false, false, false, false, false, false] rfl rfl (one_of HT_.out (by kernel_rfl)) (by decide) (fun K hK => ?_)
  have hcv38 := own_string (P := Try.prog) Try.underlying27 Try.underlying5 Try.underlying9 (Kd.own_of_R HO182.out)
  refine value_ (w1 := ?_) (v := ?_) (by rfl) rfl ?_ ?_
  rotate_left 2
  {
  go_simp
  constructor
  {
  rfl
  }
  {
  rfl
  }
  }
  clear hcv38
  refine hK.out _ _ trivial (fun hHeld => ?_)
  clear hK K
  refine norm_ (a' := ?_) ?_ ?_
  rotate_left
  {
  show Act.put _ (some 42) _ = _
  simp only [Act.put, List.setIfInBounds_toArray, List.set_cons_zero, List.set_cons_succ, i64_w, i32_w]
  rfl
  }
  refine pure_ (i := 7) (N := some 43) (v := ?_) (a' := ?_) #[true, true, true, true, true, true, true, true, false, false, false, false, false, false, false, false, false, false, false, false, false, false, false, false, false, false, false, false, false, false] rfl rfl (any_of HT_.out (by kernel_rfl)) (fun _ _ _ h => h) (Or.inl ⟨by rfl, ?_⟩) ?_ ?_
  rotate_left
  {
  intro w'
  go_simp
  with_reducible rfl
  }
  rotate_left
  {
  simp only [Act.put, List.setIfInBounds_toArray, List.set_cons_zero, List.set_cons_succ, i64_w, i32_w]
  rfl
  }
  refine pure_ (i := 8) (N := some 44) (v := ?_) (a' := ?_) #[true, true, true, true, true, true, true, true, true, false, false, false, false, false, false, false, false, false, false, false, false, false, false, false, false, false, false, false, false, false] rfl rfl (any_of HT_.out (by kernel_rfl)) (fun _ _ _ h => h) (Or.inl ⟨by rfl, ?_⟩) ?_ ?_
  rotate_left
  {
  intro w'
  go_simp
  with_reducible rfl
  }
  rotate_left
  {
  simp only [Act.put, List.setIfInBounds_toArray, List.set_cons_zero, List.set_cons_succ, i64_w, i32_w]
  rfl
  }
  refine pure_ (i := 9) (N := some 45) (v := ?_) (a' := ?_) #[true, true, true, true, true, true, true, true, true, true, false, false, false, false, false, false, false, false, false, false, false, false, false, false, false, false, false, false, false, false] rfl rfl (any_of HT_.out (by kernel_rfl)) (fun _ _ _ h => h) (Or.inl ⟨by rfl, ?_⟩) ?_ ?_
  rotate_left
  {
  intro w'
  go_simp
  with_reducible rfl
  }
  rotate_left
  {
  simp only [Act.put, List.setIfInBounds_toArray, List.set_cons_zero, List.set_cons_succ, i64_w, i32_w]
  rfl
  }
  refine pure_ (i := 10) (N := some 46) (v := ?_) (a' := ?_) #[true, true, true, true, true, true, true, true, true, true, true, false, false, false, false, false, false, false, false, false, false, false, false, false, false, false, false, false, false, false] rfl rfl (any_of HT_.out (by kernel_rfl)) (fun _ _ _ h => h) (Or.inl ⟨by rfl, ?_⟩) ?_ ?_
  rotate_left
  {
  intro w'
  go_simp
  with_reducible rfl
  }
  rotate_left
  {
  simp only [Act.put, List.setIfInBounds_toArray, List.set_cons_zero, List.set_cons_succ, i64_w, i32_w]
  rfl
  }
  refine pure_ (i := 12) (N := some 48) (v := ?_) (a' := ?_) #[true, true, true, true, true, true, true, true, true, true, true, false, true, false, false, false, false, false, false, false, false, false, false, false, false, false, false, false, false, false] rfl rfl (any_of HT_.out (by kernel_rfl)) (fun _ _ _ h => h) (Or.inl ⟨by rfl, ?_⟩) ?_ ?_
  rotate_left
  {
  intro w'
  go_simp
  with_reducible rfl
  }
  rotate_left
  {
  simp only [Act.put, List.setIfInBounds_toArray, List.set_cons_zero, List.set_cons_succ, i64_w, i32_w]
  rfl
  }
  refine pure_ (i := 14) (N := some 50) (v := ?_) (a' := ?_) #[true, true, true, true, true, true, true, true, true, true, true, false, true, false, true, false, false, false, false, false, false, false, false, false, false, false, false, false, false, false] rfl rfl (any_of HT_.out (by kernel_rfl)) (fun _ _ _ h => h) (Or.inl ⟨by rfl, ?_⟩) ?_ ?_
  rotate_left
  {
  intro w'
  go_simp
  with_reducible rfl
  }
  rotate_left
  {
  simp only [Act.put, List.setIfInBounds_toArray, List.set_cons_zero, List.set_cons_succ, i64_w, i32_w]
  rfl
  }
  refine pure_ (i := 15) (N := some 51) (v := ?_) (a' := ?_) #[true, true, true, true, true, true, true, true, true, true, true, false, true, false, true, true, false, false, false, false, false, false, false, false, false, false, false, false, false, false] rfl rfl (any_of HT_.out (by kernel_rfl)) (fun _ _ _ h => h) (Or.inl ⟨by rfl, ?_⟩) ?_ ?_
  rotate_left
  {
  intro w'
  go_simp
  with_reducible rfl
  }
  rotate_left
  {
  simp only [Act.put, List.setIfInBounds_toArray, List.set_cons_zero, List.set_cons_succ, i64_w, i32_w]
  rfl
  }
  exact norm_ (by first | (simp only [putAll, Act.put, List.setIfInBounds_toArray, List.set_cons_zero, List.set_cons_succ]; done) | (simp only [putAll, Act.put, List.setIfInBounds_toArray, List.set_cons_zero, List.set_cons_succ]; rfl)) (hJ1_3_5_6 (v181) _ ⟨HO165.out, HO172.out, HO179.out, HO182.out, (by repeat (first | (with_reducible first | exact HB.out | apply below_alloc | apply pw_below_drewN | apply below_drew1) | exact HB.out))⟩)
  }
  }
  {
  skip
  rintro v181 w38 ⟨h0_, h1_, h2_, h3_, h4_⟩
  have n0_ : Aside0 (Kd.Q (Kd.int .u8) 5 w38 w.heap.size (fun k_ => some k_ ≠ (v171 : Value).ownBlock ∧ some k_ ≠ (v178 : Value).ownBlock ∧ some k_ ≠ (v181 : Value).ownBlock) (.slice Ao21 y163.length co21) y163) := ⟨h0_⟩
  have n1_ : Aside0 (Kd.R (Kd.int .u8) 5 w38 w.heap.size (fun k_ => some k_ ≠ (.slice Ao21 y163.length co21 : Value).ownBlock ∧ some k_ ≠ (v178 : Value).ownBlock ∧ some k_ ≠ (v181 : Value).ownBlock) v171 t170) := ⟨h1_⟩
  have n2_ : Aside0 (Kd.R (Kd.int .u8) 5 w38 w.heap.size (fun k_ => some k_ ≠ (.slice Ao21 y163.length co21 : Value).ownBlock ∧ some k_ ≠ (v171 : Value).ownBlock ∧ some k_ ≠ (v181 : Value).ownBlock) v178 t177) := ⟨h2_⟩
  have n3_ : Aside0 (Kd.R (Kd.int .u8) 5 w38 w.heap.size (fun k_ => some k_ ≠ (.slice Ao21 y163.length co21 : Value).ownBlock ∧ some k_ ≠ (v171 : Value).ownBlock ∧ some k_ ≠ (v178 : Value).ownBlock) v181 t180) := ⟨h3_⟩
  have n4_ : Aside0 (Below w.heap.size w w38) := ⟨h4_⟩
  clear HO165
  clear HO172
  clear HO179
  clear HR169
  clear HR176
  clear HB
  clear h0_ h1_ h2_ h3_ h4_
  have HO165 := n0_
  have HO172 := n1_
  have HO179 := n2_
  have HO182 := n3_
  have HB := n4_
  clear n0_ n1_ n2_ n3_ n4_
  have hHeld := trivial
  refine norm_ (a' := ?_) ?_ ?_
  rotate_left
  {
  simp only [putAll, Act.put, List.setIfInBounds_toArray, List.set_cons_zero, List.set_cons_succ]
  rfl
  }
  refine three_ (i := 11) (j := 13) (k := 16) (Ni := some 47) (Nj := some 49) (Nk := some 52) #[true, true, true, true, true, true, true, true, true, true, true, true, true, false, true, true, false, false, false, false, false, false, false, false, false, false, false, false, false, false] #[true, true, true, true, true, true, true, true, true, true, true, false, true, true, true, true, false, false, false, false, false, false, false, false, false, false, false, false, false, false] #[true, true, true, true, true, true, true, true, true, true, true, false, true, false, true, true, true, false, false, false, false, false, false, false, false, false, false, false, false, false] rfl rfl rfl rfl rfl rfl (three_of HT_.out (by kernel_rfl)) (by decide) (by decide) (by decide) (fun K hK => ?_) (fun K hK => ?_) (fun K hK => ?_)
  {
  skip
  have hcv39 := own_string (P := Try.prog) Try.underlying27 Try.underlying5 Try.underlying9 (Kd.own_of_R HO179.out)
  refine value_ (w1 := ?_) (v := ?_) (by rfl) rfl ?_ ?_
  rotate_left 2
  {
  go_simp
  constructor
  {
  rfl
  }
  {
  rfl
  }
  }
  clear hcv39
  refine hK.out _ _ trivial (fun hHeld => ?_)
  clear hK K
  refine norm_ (a' := ?_) ?_ ?_
  rotate_left
  {
  show Act.put _ (some 47) _ = _
  simp only [Act.put, List.setIfInBounds_toArray, List.set_cons_zero, List.set_cons_succ, i64_w, i32_w]
  rfl
  }
  exact norm_ (by first | (simp only [putAll, Act.put, List.setIfInBounds_toArray, List.set_cons_zero, List.set_cons_succ]; done) | (simp only [putAll, Act.put, List.setIfInBounds_toArray, List.set_cons_zero, List.set_cons_succ]; rfl)) (hJ1_3_5_6_11 (v181) _ ⟨HO165.out, HO172.out, HO179.out, HO182.out, (by repeat (first | (with_reducible first | exact HB.out | apply below_alloc | apply pw_below_drewN | apply below_drew1) | exact HB.out))⟩)
  }
  {
  skip
  have hcv39 := Kd.C_string (P := Try.prog) (A := A1) (c := c1) Try.underlying27 Try.underlying5 Try.underlying9 (Kd.C_below HR1.out HB.out); have hcv39N := fun m_ => Kd.C_string (P := Try.prog) (A := A1) (c := c1) Try.underlying27 Try.underlying5 Try.underlying9 (Kd.C_drewN (Kd.C_below HR1.out HB.out) m_)
  refine value_ (w1 := ?_) (v := ?_) (by rfl) rfl ?_ ?_
  rotate_left 2
  {
  go_simp
  constructor
  {
  rfl
  }
  {
  rfl
  }
  }
  clear hcv39
  refine hK.out _ _ trivial (fun hHeld => ?_)
  clear hK K
  refine norm_ (a' := ?_) ?_ ?_
  rotate_left
  {
  show Act.put _ (some 49) _ = _
  simp only [Act.put, List.setIfInBounds_toArray, List.set_cons_zero, List.set_cons_succ, i64_w, i32_w]
  rfl
  }
  exact norm_ (by first | (simp only [putAll, Act.put, List.setIfInBounds_toArray, List.set_cons_zero, List.set_cons_succ]; done) | (simp only [putAll, Act.put, List.setIfInBounds_toArray, List.set_cons_zero, List.set_cons_succ]; rfl)) (hJ1_3_5_6_13 (v181) _ ⟨HO165.out, HO172.out, HO179.out, HO182.out, (by repeat (first | (with_reducible first | exact HB.out | apply below_alloc | apply pw_below_drewN | apply below_drew1) | exact HB.out))⟩)
  }
  {
  skip
  refine goes_ Try.func13 (by kernel_rfl) rfl #[.int .i64 (wrap64 (a0))] (by rfl) rfl rfl (by (try simp only [List.map_toArray, List.map_cons, List.map_nil]); first | done | rfl | (simp only [List.length_drop, List.length_take]; rfl)) ?_
  with_reducible refine (ferruleref4_Of.calls (wrap64 (a0)) t183 _ A28.out).mono ?_
  rintro e w' ⟨rfl, ⟨nd, rfl⟩⟩
  refine ⟨_, rfl, ?_⟩
  refine hK.out _ _ trivial (fun hHeld => ?_)
  clear hK K
  refine norm_ (a' := ?_) ?_ ?_
  rotate_left
  {
  show Act.put _ (some 52) _ = _
  simp only [Act.put, List.setIfInBounds_toArray, List.set_cons_zero, List.set_cons_succ, i64_w, i32_w]
  rfl
  }
  exact norm_ (by first | (simp only [putAll, Act.put, List.setIfInBounds_toArray, List.set_cons_zero, List.set_cons_succ]; done) | (simp only [putAll, Act.put, List.setIfInBounds_toArray, List.set_cons_zero, List.set_cons_succ]; rfl)) (hJ1_3_5_6_16 (v181) _ ⟨HO165.out, HO172.out, HO179.out, HO182.out, (by repeat (first | (with_reducible first | exact HB.out | apply below_alloc | apply pw_below_drewN | apply below_drew1) | exact HB.out))⟩)
  }
  }
  }
  {
  skip
  rintro v181 w38 ⟨h0_, h1_, h2_, h3_, h4_⟩
  have n0_ : Aside0 (Kd.Q (Kd.int .u8) 5 w38 w.heap.size (fun k_ => some k_ ≠ (v171 : Value).ownBlock ∧ some k_ ≠ (v178 : Value).ownBlock ∧ some k_ ≠ (v181 : Value).ownBlock) (.slice Ao21 y163.length co21) y163) := ⟨h0_⟩
  have n1_ : Aside0 (Kd.R (Kd.int .u8) 5 w38 w.heap.size (fun k_ => some k_ ≠ (.slice Ao21 y163.length co21 : Value).ownBlock ∧ some k_ ≠ (v178 : Value).ownBlock ∧ some k_ ≠ (v181 : Value).ownBlock) v171 t170) := ⟨h1_⟩
  have n2_ : Aside0 (Kd.R (Kd.int .u8) 5 w38 w.heap.size (fun k_ => some k_ ≠ (.slice Ao21 y163.length co21 : Value).ownBlock ∧ some k_ ≠ (v171 : Value).ownBlock ∧ some k_ ≠ (v181 : Value).ownBlock) v178 t177) := ⟨h2_⟩
  have n3_ : Aside0 (Kd.R (Kd.int .u8) 5 w38 w.heap.size (fun k_ => some k_ ≠ (.slice Ao21 y163.length co21 : Value).ownBlock ∧ some k_ ≠ (v171 : Value).ownBlock ∧ some k_ ≠ (v178 : Value).ownBlock) v181 t180) := ⟨h3_⟩
  have n4_ : Aside0 (Below w.heap.size w w38) := ⟨h4_⟩
  clear HO165
  clear HO172
  clear HO179
  clear HR169
  clear HR176
  clear HB
  clear h0_ h1_ h2_ h3_ h4_
  have HO165 := n0_
  have HO172 := n1_
  have HO179 := n2_
  have HO182 := n3_
  have HB := n4_
  clear n0_ n1_ n2_ n3_ n4_
  have hHeld := trivial
  refine norm_ (a' := ?_) ?_ ?_
  rotate_left
  {
  simp only [putAll, Act.put, List.setIfInBounds_toArray, List.set_cons_zero, List.set_cons_succ]
  rfl
  }
  refine three_ (i := 11) (j := 13) (k := 17) (Ni := some 47) (Nj := some 49) (Nk := some 53) #[true, true, true, true, true, true, true, true, true, true, true, true, true, false, true, true, true, false, false, false, false, false, false, false, false, false, false, false, false, false] #[true, true, true, true, true, true, true, true, true, true, true, false, true, true, true, true, true, false, false, false, false, false, false, false, false, false, false, false, false, false] #[true, true, true, true, true, true, true, true, true, true, true, false, true, false, true, true, true, true, false, false, false, false, false, false, false, false, false, false, false, false] rfl rfl rfl rfl rfl rfl (three_of HT_.out (by kernel_rfl)) (by decide) (by decide) (by decide) (fun K hK => ?_) (fun K hK => ?_) (fun K hK => ?_)
  {
  skip
  have hcv39 := own_string (P := Try.prog) Try.underlying27 Try.underlying5 Try.underlying9 (Kd.own_of_R HO179.out)
  refine value_ (w1 := ?_) (v := ?_) (by rfl) rfl ?_ ?_
  rotate_left 2
  {
  go_simp
  constructor
  {
  rfl
  }
  {
  rfl
  }
  }
  clear hcv39
  refine hK.out _ _ trivial (fun hHeld => ?_)
  clear hK K
  refine norm_ (a' := ?_) ?_ ?_
  rotate_left
  {
  show Act.put _ (some 47) _ = _
  simp only [Act.put, List.setIfInBounds_toArray, List.set_cons_zero, List.set_cons_succ, i64_w, i32_w]
  rfl
  }
  exact norm_ (by first | (simp only [putAll, Act.put, List.setIfInBounds_toArray, List.set_cons_zero, List.set_cons_succ]; done) | (simp only [putAll, Act.put, List.setIfInBounds_toArray, List.set_cons_zero, List.set_cons_succ]; rfl)) (hJ1_3_5_6_11_16 (v181) _ ⟨HO165.out, HO172.out, HO179.out, HO182.out, (by repeat (first | (with_reducible first | exact HB.out | apply below_alloc | apply pw_below_drewN | apply below_drew1) | exact HB.out))⟩)
  }
  {
  skip
  have hcv39 := Kd.C_string (P := Try.prog) (A := A1) (c := c1) Try.underlying27 Try.underlying5 Try.underlying9 (Kd.C_below HR1.out HB.out); have hcv39N := fun m_ => Kd.C_string (P := Try.prog) (A := A1) (c := c1) Try.underlying27 Try.underlying5 Try.underlying9 (Kd.C_drewN (Kd.C_below HR1.out HB.out) m_)
  refine value_ (w1 := ?_) (v := ?_) (by rfl) rfl ?_ ?_
  rotate_left 2
  {
  go_simp
  constructor
  {
  rfl
  }
  {
  rfl
  }
  }
  clear hcv39
  refine hK.out _ _ trivial (fun hHeld => ?_)
  clear hK K
  refine norm_ (a' := ?_) ?_ ?_
  rotate_left
  {
  show Act.put _ (some 49) _ = _
  simp only [Act.put, List.setIfInBounds_toArray, List.set_cons_zero, List.set_cons_succ, i64_w, i32_w]
  rfl
  }
  exact norm_ (by first | (simp only [putAll, Act.put, List.setIfInBounds_toArray, List.set_cons_zero, List.set_cons_succ]; done) | (simp only [putAll, Act.put, List.setIfInBounds_toArray, List.set_cons_zero, List.set_cons_succ]; rfl)) (hJ1_3_5_6_13_16 (v181) _ ⟨HO165.out, HO172.out, HO179.out, HO182.out, (by repeat (first | (with_reducible first | exact HB.out | apply below_alloc | apply pw_below_drewN | apply below_drew1) | exact HB.out))⟩)
  }
  {
  skip
  refine goes_ Try.func12 (by kernel_rfl) rfl #[.int .u64 t183] (by rfl) rfl rfl (by (try simp only [List.map_toArray, List.map_cons, List.map_nil]); first | done | rfl | (simp only [List.length_drop, List.length_take]; rfl)) ?_
  with_reducible refine (ferruleref4_Put.calls k t183 t184 _ A29.out).mono ?_
  rintro e w39 ⟨v185, rfl, ho0, hb⟩
  refine ⟨_, rfl, ?_⟩
  have n0_ := Aside0.mk (Kd.Q_elder' (by (with_reducible repeat (first | apply Kd.Q_alloc | apply Kd.Q_drewN | apply Kd.Q_drew)); exact HO165.out) (Kd.R_base ho0) hb)
  have n1_ := Aside0.mk (Kd.R_elder' (by (with_reducible repeat (first | apply Kd.R_alloc | apply Kd.R_drewN | apply Kd.R_drew)); exact HO172.out) (Kd.R_base ho0) hb)
  have n2_ := Aside0.mk (Kd.R_elder' (by (with_reducible repeat (first | apply Kd.R_alloc | apply Kd.R_drewN | apply Kd.R_drew)); exact HO179.out) (Kd.R_base ho0) hb)
  have n3_ := Aside0.mk (Kd.R_elder' (by (with_reducible repeat (first | apply Kd.R_alloc | apply Kd.R_drewN | apply Kd.R_drew)); exact HO182.out) (Kd.R_base ho0) hb)
  have n4_ := Aside0.mk (Kd.R_lower (Kd.R_new' (Kd.R_new' (Kd.R_new' (Kd.R_new' ho0 (Kd.Q_lt (by (with_reducible repeat (first | apply Kd.Q_alloc | apply Kd.Q_drewN | apply Kd.Q_drew)); exact HO165.out))) (Kd.R_lt (by (with_reducible repeat (first | apply Kd.R_alloc | apply Kd.R_drewN | apply Kd.R_drew)); exact HO172.out))) (Kd.R_lt (by (with_reducible repeat (first | apply Kd.R_alloc | apply Kd.R_drewN | apply Kd.R_drew)); exact HO179.out))) (Kd.R_lt (by (with_reducible repeat (first | apply Kd.R_alloc | apply Kd.R_drewN | apply Kd.R_drew)); exact HO182.out))) (below_size (by repeat (first | (with_reducible first | exact HB.out | apply below_alloc | apply pw_below_drewN | apply below_drew1) | exact HB.out))))
  have n5_ := Aside0.mk (below_step (by repeat (first | (with_reducible first | exact HB.out | apply below_alloc | apply pw_below_drewN | apply below_drew1) | exact HB.out)) hb)
  clear HO165
  clear HO172
  clear HO179
  clear HO182
  clear HB
  have HO165 := n0_
  have HO172 := n1_
  have HO179 := n2_
  have HO182 := n3_
  have HO186 := n4_
  have HB := n5_
  clear n0_ n1_ n2_ n3_ n4_ n5_
  (try clear hb)
  (try clear hb2)
  (try clear hk)
  (try clear hi)
  (try clear ho0)
  refine hK.out _ _ trivial (fun hHeld => ?_)
  clear hK K
  refine norm_ (a' := ?_) ?_ ?_
  rotate_left
  {
  show Act.put _ (some 53) _ = _
  simp only [Act.put, List.setIfInBounds_toArray, List.set_cons_zero, List.set_cons_succ, i64_w, i32_w]
  rfl
  }
  exact norm_ (by first | (simp only [putAll, Act.put, List.setIfInBounds_toArray, List.set_cons_zero, List.set_cons_succ]; done) | (simp only [putAll, Act.put, List.setIfInBounds_toArray, List.set_cons_zero, List.set_cons_succ]; rfl)) (hJ1_3_5_6_16_17 (v181, v185) _ ⟨Kd.Q_mono HO165.out (fun _ hk => ⟨hk.1.1, ⟨hk.1.2.1, ⟨hk.1.2.2, hk.2⟩⟩⟩), Kd.R_mono HO172.out (fun _ hk => ⟨hk.1.1, ⟨hk.1.2.1, ⟨hk.1.2.2, hk.2⟩⟩⟩), Kd.R_mono HO179.out (fun _ hk => ⟨hk.1.1, ⟨hk.1.2.1, ⟨hk.1.2.2, hk.2⟩⟩⟩), Kd.R_mono HO182.out (fun _ hk => ⟨hk.1.1, ⟨hk.1.2.1, ⟨hk.1.2.2, hk.2⟩⟩⟩), Kd.R_mono HO186.out (fun _ hk => ⟨hk.1.1.1.2, ⟨hk.1.1.2, ⟨hk.1.2, hk.2⟩⟩⟩), (by repeat (first | (with_reducible first | exact HB.out | apply below_alloc | apply pw_below_drewN | apply below_drew1) | exact HB.out))⟩)
  }
  }
  }
  {
  skip
  rintro v181 w39 ⟨h0_, h1_, h2_, h3_, h4_⟩
  have n0_ : Aside0 (Kd.Q (Kd.int .u8) 5 w39 w.heap.size (fun k_ => some k_ ≠ (v171 : Value).ownBlock ∧ some k_ ≠ (v178 : Value).ownBlock ∧ some k_ ≠ (v181 : Value).ownBlock) (.slice Ao21 y163.length co21) y163) := ⟨h0_⟩
  have n1_ : Aside0 (Kd.R (Kd.int .u8) 5 w39 w.heap.size (fun k_ => some k_ ≠ (.slice Ao21 y163.length co21 : Value).ownBlock ∧ some k_ ≠ (v178 : Value).ownBlock ∧ some k_ ≠ (v181 : Value).ownBlock) v171 t170) := ⟨h1_⟩
  have n2_ : Aside0 (Kd.R (Kd.int .u8) 5 w39 w.heap.size (fun k_ => some k_ ≠ (.slice Ao21 y163.length co21 : Value).ownBlock ∧ some k_ ≠ (v171 : Value).ownBlock ∧ some k_ ≠ (v181 : Value).ownBlock) v178 t177) := ⟨h2_⟩
  have n3_ : Aside0 (Kd.R (Kd.int .u8) 5 w39 w.heap.size (fun k_ => some k_ ≠ (.slice Ao21 y163.length co21 : Value).ownBlock ∧ some k_ ≠ (v171 : Value).ownBlock ∧ some k_ ≠ (v178 : Value).ownBlock) v181 t180) := ⟨h3_⟩
  have n4_ : Aside0 (Below w.heap.size w w39) := ⟨h4_⟩
  clear HO165
  clear HO172
  clear HO179
  clear HR169
  clear HR176
  clear HB
  clear h0_ h1_ h2_ h3_ h4_
  have HO165 := n0_
  have HO172 := n1_
  have HO179 := n2_
  have HO182 := n3_
  have HB := n4_
  clear n0_ n1_ n2_ n3_ n4_
  have hHeld := trivial
  refine norm_ (a' := ?_) ?_ ?_
  rotate_left
  {
  simp only [putAll, Act.put, List.setIfInBounds_toArray, List.set_cons_zero, List.set_cons_succ]
  rfl
  }
  refine two_ (i := 11) (j := 16) (Ni := some 47) (Nj := some 52) #[true, true, true, true, true, true, true, true, true, true, true, true, true, true, true, true, false, false, false, false, false, false, false, false, false, false, false, false, false, false] #[true, true, true, true, true, true, true, true, true, true, true, false, true, true, true, true, true, false, false, false, false, false, false, false, false, false, false, false, false, false] rfl rfl rfl rfl (two_of HT_.out (by kernel_rfl)) (by decide) (by decide) (fun K hK => ?_) (fun K hK => ?_)
  {
  skip
  have hcv40 := own_string (P := Try.prog) Try.underlying27 Try.underlying5 Try.underlying9 (Kd.own_of_R HO179.out)
  refine value_ (w1 := ?_) (v := ?_) (by rfl) rfl ?_ ?_
  rotate_left 2
  {
  go_simp
  constructor
  {
  rfl
  }
  {
  rfl
  }
  }
  clear hcv40
  refine hK.out _ _ trivial (fun hHeld => ?_)
  clear hK K
  refine norm_ (a' := ?_) ?_ ?_
  rotate_left
  {
  show Act.put _ (some 47) _ = _
  simp only [Act.put, List.setIfInBounds_toArray, List.set_cons_zero, List.set_cons_succ, i64_w, i32_w]
  rfl
  }
  exact norm_ (by first | (simp only [putAll, Act.put, List.setIfInBounds_toArray, List.set_cons_zero, List.set_cons_succ]; done) | (simp only [putAll, Act.put, List.setIfInBounds_toArray, List.set_cons_zero, List.set_cons_succ]; rfl)) (hJ1_3_5_6_11_13 (v181) _ ⟨HO165.out, HO172.out, HO179.out, HO182.out, (by repeat (first | (with_reducible first | exact HB.out | apply below_alloc | apply pw_below_drewN | apply below_drew1) | exact HB.out))⟩)
  }
  {
  skip
  refine goes_ Try.func13 (by kernel_rfl) rfl #[.int .i64 (wrap64 (a0))] (by rfl) rfl rfl (by (try simp only [List.map_toArray, List.map_cons, List.map_nil]); first | done | rfl | (simp only [List.length_drop, List.length_take]; rfl)) ?_
  with_reducible refine (ferruleref4_Of.calls (wrap64 (a0)) t183 _ A28.out).mono ?_
  rintro e w' ⟨rfl, ⟨nd, rfl⟩⟩
  refine ⟨_, rfl, ?_⟩
  refine hK.out _ _ trivial (fun hHeld => ?_)
  clear hK K
  refine norm_ (a' := ?_) ?_ ?_
  rotate_left
  {
  show Act.put _ (some 52) _ = _
  simp only [Act.put, List.setIfInBounds_toArray, List.set_cons_zero, List.set_cons_succ, i64_w, i32_w]
  rfl
  }
  exact norm_ (by first | (simp only [putAll, Act.put, List.setIfInBounds_toArray, List.set_cons_zero, List.set_cons_succ]; done) | (simp only [putAll, Act.put, List.setIfInBounds_toArray, List.set_cons_zero, List.set_cons_succ]; rfl)) (hJ1_3_5_6_13_16 (v181) _ ⟨HO165.out, HO172.out, HO179.out, HO182.out, (by repeat (first | (with_reducible first | exact HB.out | apply below_alloc | apply pw_below_drewN | apply below_drew1) | exact HB.out))⟩)
  }
  }
  }
  {
  skip
  rintro v181 w39 ⟨h0_, h1_, h2_, h3_, h4_⟩
  have n0_ : Aside0 (Kd.Q (Kd.int .u8) 5 w39 w.heap.size (fun k_ => some k_ ≠ (v171 : Value).ownBlock ∧ some k_ ≠ (v178 : Value).ownBlock ∧ some k_ ≠ (v181 : Value).ownBlock) (.slice Ao21 y163.length co21) y163) := ⟨h0_⟩
  have n1_ : Aside0 (Kd.R (Kd.int .u8) 5 w39 w.heap.size (fun k_ => some k_ ≠ (.slice Ao21 y163.length co21 : Value).ownBlock ∧ some k_ ≠ (v178 : Value).ownBlock ∧ some k_ ≠ (v181 : Value).ownBlock) v171 t170) := ⟨h1_⟩
  have n2_ : Aside0 (Kd.R (Kd.int .u8) 5 w39 w.heap.size (fun k_ => some k_ ≠ (.slice Ao21 y163.length co21 : Value).ownBlock ∧ some k_ ≠ (v171 : Value).ownBlock ∧ some k_ ≠ (v181 : Value).ownBlock) v178 t177) := ⟨h2_⟩
  have n3_ : Aside0 (Kd.R (Kd.int .u8) 5 w39 w.heap.size (fun k_ => some k_ ≠ (.slice Ao21 y163.length co21 : Value).ownBlock ∧ some k_ ≠ (v171 : Value).ownBlock ∧ some k_ ≠ (v178 : Value).ownBlock) v181 t180) := ⟨h3_⟩
  have n4_ : Aside0 (Below w.heap.size w w39) := ⟨h4_⟩
  clear HO165
  clear HO172
  clear HO179
  clear HR169
  clear HR176
  clear HB
  clear h0_ h1_ h2_ h3_ h4_
  have HO165 := n0_
  have HO172 := n1_
  have HO179 := n2_
  have HO182 := n3_
  have HB := n4_
  clear n0_ n1_ n2_ n3_ n4_
  have hHeld := trivial
  refine norm_ (a' := ?_) ?_ ?_
  rotate_left
  {
  simp only [putAll, Act.put, List.setIfInBounds_toArray, List.set_cons_zero, List.set_cons_succ]
  rfl
  }
  refine two_ (i := 13) (j := 16) (Ni := some 49) (Nj := some 52) #[true, true, true, true, true, true, true, true, true, true, true, true, true, true, true, true, false, false, false, false, false, false, false, false, false, false, false, false, false, false] #[true, true, true, true, true, true, true, true, true, true, true, true, true, false, true, true, true, false, false, false, false, false, false, false, false, false, false, false, false, false] rfl rfl rfl rfl (two_of HT_.out (by kernel_rfl)) (by decide) (by decide) (fun K hK => ?_) (fun K hK => ?_)
  {
  skip
  have hcv40 := Kd.C_string (P := Try.prog) (A := A1) (c := c1) Try.underlying27 Try.underlying5 Try.underlying9 (Kd.C_below HR1.out HB.out); have hcv40N := fun m_ => Kd.C_string (P := Try.prog) (A := A1) (c := c1) Try.underlying27 Try.underlying5 Try.underlying9 (Kd.C_drewN (Kd.C_below HR1.out HB.out) m_)
  refine value_ (w1 := ?_) (v := ?_) (by rfl) rfl ?_ ?_
  rotate_left 2
  {
  go_simp
  constructor
  {
  rfl
  }
  {
  rfl
  }
  }
  clear hcv40
  refine hK.out _ _ trivial (fun hHeld => ?_)
  clear hK K
  refine norm_ (a' := ?_) ?_ ?_
  rotate_left
  {
  show Act.put _ (some 49) _ = _
  simp only [Act.put, List.setIfInBounds_toArray, List.set_cons_zero, List.set_cons_succ, i64_w, i32_w]
  rfl
  }
  exact norm_ (by first | (simp only [putAll, Act.put, List.setIfInBounds_toArray, List.set_cons_zero, List.set_cons_succ]; done) | (simp only [putAll, Act.put, List.setIfInBounds_toArray, List.set_cons_zero, List.set_cons_succ]; rfl)) (hJ1_3_5_6_11_13 (v181) _ ⟨HO165.out, HO172.out, HO179.out, HO182.out, (by repeat (first | (with_reducible first | exact HB.out | apply below_alloc | apply pw_below_drewN | apply below_drew1) | exact HB.out))⟩)
  }
  {
  skip
  refine goes_ Try.func13 (by kernel_rfl) rfl #[.int .i64 (wrap64 (a0))] (by rfl) rfl rfl (by (try simp only [List.map_toArray, List.map_cons, List.map_nil]); first | done | rfl | (simp only [List.length_drop, List.length_take]; rfl)) ?_
  with_reducible refine (ferruleref4_Of.calls (wrap64 (a0)) t183 _ A28.out).mono ?_
  rintro e w' ⟨rfl, ⟨nd, rfl⟩⟩
  refine ⟨_, rfl, ?_⟩
  refine hK.out _ _ trivial (fun hHeld => ?_)
  clear hK K
  refine norm_ (a' := ?_) ?_ ?_
  rotate_left
  {
  show Act.put _ (some 52) _ = _
  simp only [Act.put, List.setIfInBounds_toArray, List.set_cons_zero, List.set_cons_succ, i64_w, i32_w]
  rfl
  }
  exact norm_ (by first | (simp only [putAll, Act.put, List.setIfInBounds_toArray, List.set_cons_zero, List.set_cons_succ]; done) | (simp only [putAll, Act.put, List.setIfInBounds_toArray, List.set_cons_zero, List.set_cons_succ]; rfl)) (hJ1_3_5_6_11_16 (v181) _ ⟨HO165.out, HO172.out, HO179.out, HO182.out, (by repeat (first | (with_reducible first | exact HB.out | apply below_alloc | apply pw_below_drewN | apply below_drew1) | exact HB.out))⟩)
  }
  }
  }
  {
  skip
  rintro ⟨v181, v185⟩ w39 ⟨h0_, h1_, h2_, h3_, h4_, h5_⟩
  have n0_ : Aside0 (Kd.Q (Kd.int .u8) 5 w39 w.heap.size (fun k_ => some k_ ≠ (v171 : Value).ownBlock ∧ some k_ ≠ (v178 : Value).ownBlock ∧ some k_ ≠ (v181 : Value).ownBlock ∧ some k_ ≠ (v185 : Value).ownBlock) (.slice Ao21 y163.length co21) y163) := ⟨h0_⟩
  have n1_ : Aside0 (Kd.R (Kd.int .u8) 5 w39 w.heap.size (fun k_ => some k_ ≠ (.slice Ao21 y163.length co21 : Value).ownBlock ∧ some k_ ≠ (v178 : Value).ownBlock ∧ some k_ ≠ (v181 : Value).ownBlock ∧ some k_ ≠ (v185 : Value).ownBlock) v171 t170) := ⟨h1_⟩
  have n2_ : Aside0 (Kd.R (Kd.int .u8) 5 w39 w.heap.size (fun k_ => some k_ ≠ (.slice Ao21 y163.length co21 : Value).ownBlock ∧ some k_ ≠ (v171 : Value).ownBlock ∧ some k_ ≠ (v181 : Value).ownBlock ∧ some k_ ≠ (v185 : Value).ownBlock) v178 t177) := ⟨h2_⟩
  have n3_ : Aside0 (Kd.R (Kd.int .u8) 5 w39 w.heap.size (fun k_ => some k_ ≠ (.slice Ao21 y163.length co21 : Value).ownBlock ∧ some k_ ≠ (v171 : Value).ownBlock ∧ some k_ ≠ (v178 : Value).ownBlock ∧ some k_ ≠ (v185 : Value).ownBlock) v181 t180) := ⟨h3_⟩
  have n4_ : Aside0 (Kd.R (Kd.int .u8) 5 w39 w.heap.size (fun k_ => some k_ ≠ (.slice Ao21 y163.length co21 : Value).ownBlock ∧ some k_ ≠ (v171 : Value).ownBlock ∧ some k_ ≠ (v178 : Value).ownBlock ∧ some k_ ≠ (v181 : Value).ownBlock) v185 t184) := ⟨h4_⟩
  have n5_ : Aside0 (Below w.heap.size w w39) := ⟨h5_⟩
  clear HO165
  clear HO172
  clear HO179
  clear HR169
  clear HR176
  clear HB
  clear h0_ h1_ h2_ h3_ h4_ h5_
  have HO165 := n0_
  have HO172 := n1_
  have HO179 := n2_
  have HO182 := n3_
  have HO186 := n4_
  have HB := n5_
  clear n0_ n1_ n2_ n3_ n4_ n5_
  have hHeld := trivial
  refine norm_ (a' := ?_) ?_ ?_
  rotate_left
  {
  simp only [putAll, Act.put, List.setIfInBounds_toArray, List.set_cons_zero, List.set_cons_succ]
  rfl
  }
  refine three_ (i := 11) (j := 13) (k := 18) (Ni := some 47) (Nj := some 49) (Nk := some 54) #[true, true, true, true, true, true, true, true, true, true, true, true, true, false, true, true, true, true, false, false, false, false, false, false, false, false, false, false, false, false] #[true, true, true, true, true, true, true, true, true, true, true, false, true, true, true, true, true, true, false, false, false, false, false, false, false, false, false, false, false, false] #[true, true, true, true, true, true, true, true, true, true, true, false, true, false, true, true, true, true, true, false, false, false, false, false, false, false, false, false, false, false] rfl rfl rfl rfl rfl rfl (three_of HT_.out (by kernel_rfl)) (by decide) (by decide) (by decide) (fun K hK => ?_) (fun K hK => ?_) (fun K hK => ?_)
  {
  skip
  have hcv40 := own_string (P := Try.prog) Try.underlying27 Try.underlying5 Try.underlying9 (Kd.own_of_R HO179.out)
  refine value_ (w1 := ?_) (v := ?_) (by rfl) rfl ?_ ?_
  rotate_left 2
  {
  go_simp
  constructor
  {
  rfl
  }
  {
  rfl
  }
  }
  clear hcv40
  refine hK.out _ _ trivial (fun hHeld => ?_)
  clear hK K
  refine norm_ (a' := ?_) ?_ ?_
  rotate_left
  {
  show Act.put _ (some 47) _ = _
  simp only [Act.put, List.setIfInBounds_toArray, List.set_cons_zero, List.set_cons_succ, i64_w, i32_w]
  rfl
  }
  exact norm_ (by first | (simp only [putAll, Act.put, List.setIfInBounds_toArray, List.set_cons_zero, List.set_cons_succ]; done) | (simp only [putAll, Act.put, List.setIfInBounds_toArray, List.set_cons_zero, List.set_cons_succ]; rfl)) (hJ1_3_5_6_11_16_17 (v181, v185) _ ⟨HO165.out, HO172.out, HO179.out, HO182.out, HO186.out, (by repeat (first | (with_reducible first | exact HB.out | apply below_alloc | apply pw_below_drewN | apply below_drew1) | exact HB.out))⟩)
  }
  {
  skip
  have hcv40 := Kd.C_string (P := Try.prog) (A := A1) (c := c1) Try.underlying27 Try.underlying5 Try.underlying9 (Kd.C_below HR1.out HB.out); have hcv40N := fun m_ => Kd.C_string (P := Try.prog) (A := A1) (c := c1) Try.underlying27 Try.underlying5 Try.underlying9 (Kd.C_drewN (Kd.C_below HR1.out HB.out) m_)
  refine value_ (w1 := ?_) (v := ?_) (by rfl) rfl ?_ ?_
  rotate_left 2
  {
  go_simp
  constructor
  {
  rfl
  }
  {
  rfl
  }
  }
  clear hcv40
  refine hK.out _ _ trivial (fun hHeld => ?_)
  clear hK K
  refine norm_ (a' := ?_) ?_ ?_
  rotate_left
  {
  show Act.put _ (some 49) _ = _
  simp only [Act.put, List.setIfInBounds_toArray, List.set_cons_zero, List.set_cons_succ, i64_w, i32_w]
  rfl
  }
  exact norm_ (by first | (simp only [putAll, Act.put, List.setIfInBounds_toArray, List.set_cons_zero, List.set_cons_succ]; done) | (simp only [putAll, Act.put, List.setIfInBounds_toArray, List.set_cons_zero, List.set_cons_succ]; rfl)) (hJ1_3_5_6_13_16_17 (v181, v185) _ ⟨HO165.out, HO172.out, HO179.out, HO182.out, HO186.out, (by repeat (first | (with_reducible first | exact HB.out | apply below_alloc | apply pw_below_drewN | apply below_drew1) | exact HB.out))⟩)
  }
  {
  skip
  have hcv40 := own_string (P := Try.prog) Try.underlying27 Try.underlying5 Try.underlying9 (Kd.own_of_R HO186.out)
  refine value_ (w1 := ?_) (v := ?_) (by rfl) rfl ?_ ?_
  rotate_left 2
  {
  go_simp
  constructor
  {
  rfl
  }
  {
  rfl
  }
  }
  clear hcv40
  refine hK.out _ _ trivial (fun hHeld => ?_)
  clear hK K
  refine norm_ (a' := ?_) ?_ ?_
  rotate_left
  {
  show Act.put _ (some 54) _ = _
  simp only [Act.put, List.setIfInBounds_toArray, List.set_cons_zero, List.set_cons_succ, i64_w, i32_w]
  rfl
  }
  exact norm_ (by first | (simp only [putAll, Act.put, List.setIfInBounds_toArray, List.set_cons_zero, List.set_cons_succ]; done) | (simp only [putAll, Act.put, List.setIfInBounds_toArray, List.set_cons_zero, List.set_cons_succ]; rfl)) (hJ1_3_5_6_16_17_18 (v181, v185) _ ⟨HO165.out, HO172.out, HO179.out, HO182.out, HO186.out, (by repeat (first | (with_reducible first | exact HB.out | apply below_alloc | apply pw_below_drewN | apply below_drew1) | exact HB.out))⟩)
  }
  }
  }
  {
  skip
  rintro v181 w39 ⟨h0_, h1_, h2_, h3_, h4_⟩
  have n0_ : Aside0 (Kd.Q (Kd.int .u8) 5 w39 w.heap.size (fun k_ => some k_ ≠ (v171 : Value).ownBlock ∧ some k_ ≠ (v178 : Value).ownBlock ∧ some k_ ≠ (v181 : Value).ownBlock) (.slice Ao21 y163.length co21) y163) := ⟨h0_⟩
  have n1_ : Aside0 (Kd.R (Kd.int .u8) 5 w39 w.heap.size (fun k_ => some k_ ≠ (.slice Ao21 y163.length co21 : Value).ownBlock ∧ some k_ ≠ (v178 : Value).ownBlock ∧ some k_ ≠ (v181 : Value).ownBlock) v171 t170) := ⟨h1_⟩
  have n2_ : Aside0 (Kd.R (Kd.int .u8) 5 w39 w.heap.size (fun k_ => some k_ ≠ (.slice Ao21 y163.length co21 : Value).ownBlock ∧ some k_ ≠ (v171 : Value).ownBlock ∧ some k_ ≠ (v181 : Value).ownBlock) v178 t177) := ⟨h2_⟩
  have n3_ : Aside0 (Kd.R (Kd.int .u8) 5 w39 w.heap.size (fun k_ => some k_ ≠ (.slice Ao21 y163.length co21 : Value).ownBlock ∧ some k_ ≠ (v171 : Value).ownBlock ∧ some k_ ≠ (v178 : Value).ownBlock) v181 t180) := ⟨h3_⟩
  have n4_ : Aside0 (Below w.heap.size w w39) := ⟨h4_⟩
  clear HO165
  clear HO172
  clear HO179
  clear HR169
  clear HR176
  clear HB
  clear h0_ h1_ h2_ h3_ h4_
  have HO165 := n0_
  have HO172 := n1_
  have HO179 := n2_
  have HO182 := n3_
  have HB := n4_
  clear n0_ n1_ n2_ n3_ n4_
  have hHeld := trivial
  refine norm_ (a' := ?_) ?_ ?_
  rotate_left
  {
  simp only [putAll, Act.put, List.setIfInBounds_toArray, List.set_cons_zero, List.set_cons_succ]
  rfl
  }
  refine two_ (i := 11) (j := 17) (Ni := some 47) (Nj := some 53) #[true, true, true, true, true, true, true, true, true, true, true, true, true, true, true, true, true, false, false, false, false, false, false, false, false, false, false, false, false, false] #[true, true, true, true, true, true, true, true, true, true, true, false, true, true, true, true, true, true, false, false, false, false, false, false, false, false, false, false, false, false] rfl rfl rfl rfl (two_of HT_.out (by kernel_rfl)) (by decide) (by decide) (fun K hK => ?_) (fun K hK => ?_)
  {
  skip
  have hcv40 := own_string (P := Try.prog) Try.underlying27 Try.underlying5 Try.underlying9 (Kd.own_of_R HO179.out)
  refine value_ (w1 := ?_) (v := ?_) (by rfl) rfl ?_ ?_
  rotate_left 2
  {
  go_simp
  constructor
  {
  rfl
  }
  {
  rfl
  }
  }
  clear hcv40
  refine hK.out _ _ trivial (fun hHeld => ?_)
  clear hK K
  refine norm_ (a' := ?_) ?_ ?_
  rotate_left
  {
  show Act.put _ (some 47) _ = _
  simp only [Act.put, List.setIfInBounds_toArray, List.set_cons_zero, List.set_cons_succ, i64_w, i32_w]
  rfl
  }
  exact norm_ (by first | (simp only [putAll, Act.put, List.setIfInBounds_toArray, List.set_cons_zero, List.set_cons_succ]; done) | (simp only [putAll, Act.put, List.setIfInBounds_toArray, List.set_cons_zero, List.set_cons_succ]; rfl)) (hJ1_3_5_6_11_13_16 (v181) _ ⟨HO165.out, HO172.out, HO179.out, HO182.out, (by repeat (first | (with_reducible first | exact HB.out | apply below_alloc | apply pw_below_drewN | apply below_drew1) | exact HB.out))⟩)
  }
  {
  skip
  refine goes_ Try.func12 (by kernel_rfl) rfl #[.int .u64 t183] (by rfl) rfl rfl (by (try simp only [List.map_toArray, List.map_cons, List.map_nil]); first | done | rfl | (simp only [List.length_drop, List.length_take]; rfl)) ?_
  with_reducible refine (ferruleref4_Put.calls k t183 t184 _ A29.out).mono ?_
  rintro e w40 ⟨v185, rfl, ho0, hb⟩
  refine ⟨_, rfl, ?_⟩
  have n0_ := Aside0.mk (Kd.Q_elder' (by (with_reducible repeat (first | apply Kd.Q_alloc | apply Kd.Q_drewN | apply Kd.Q_drew)); exact HO165.out) (Kd.R_base ho0) hb)
  have n1_ := Aside0.mk (Kd.R_elder' (by (with_reducible repeat (first | apply Kd.R_alloc | apply Kd.R_drewN | apply Kd.R_drew)); exact HO172.out) (Kd.R_base ho0) hb)
  have n2_ := Aside0.mk (Kd.R_elder' (by (with_reducible repeat (first | apply Kd.R_alloc | apply Kd.R_drewN | apply Kd.R_drew)); exact HO179.out) (Kd.R_base ho0) hb)
  have n3_ := Aside0.mk (Kd.R_elder' (by (with_reducible repeat (first | apply Kd.R_alloc | apply Kd.R_drewN | apply Kd.R_drew)); exact HO182.out) (Kd.R_base ho0) hb)
  have n4_ := Aside0.mk (Kd.R_lower (Kd.R_new' (Kd.R_new' (Kd.R_new' (Kd.R_new' ho0 (Kd.Q_lt (by (with_reducible repeat (first | apply Kd.Q_alloc | apply Kd.Q_drewN | apply Kd.Q_drew)); exact HO165.out))) (Kd.R_lt (by (with_reducible repeat (first | apply Kd.R_alloc | apply Kd.R_drewN | apply Kd.R_drew)); exact HO172.out))) (Kd.R_lt (by (with_reducible repeat (first | apply Kd.R_alloc | apply Kd.R_drewN | apply Kd.R_drew)); exact HO179.out))) (Kd.R_lt (by (with_reducible repeat (first | apply Kd.R_alloc | apply Kd.R_drewN | apply Kd.R_drew)); exact HO182.out))) (below_size (by repeat (first | (with_reducible first | exact HB.out | apply below_alloc | apply pw_below_drewN | apply below_drew1) | exact HB.out))))
  have n5_ := Aside0.mk (below_step (by repeat (first | (with_reducible first | exact HB.out | apply below_alloc | apply pw_below_drewN | apply below_drew1) | exact HB.out)) hb)
  clear HO165
  clear HO172
  clear HO179
  clear HO182
  clear HB
  have HO165 := n0_
  have HO172 := n1_
  have HO179 := n2_
  have HO182 := n3_
  have HO186 := n4_
  have HB := n5_
  clear n0_ n1_ n2_ n3_ n4_ n5_
  (try clear hb)
  (try clear hb2)
  (try clear hk)
  (try clear hi)
  (try clear ho0)
  refine hK.out _ _ trivial (fun hHeld => ?_)
  clear hK K
  refine norm_ (a' := ?_) ?_ ?_
  rotate_left
  {
  show Act.put _ (some 53) _ = _
  simp only [Act.put, List.setIfInBounds_toArray, List.set_cons_zero, List.set_cons_succ, i64_w, i32_w]
  rfl
  }
  exact norm_ (by first | (simp only [putAll, Act.put, List.setIfInBounds_toArray, List.set_cons_zero, List.set_cons_succ]; done) | (simp only [putAll, Act.put, List.setIfInBounds_toArray, List.set_cons_zero, List.set_cons_succ]; rfl)) (hJ1_3_5_6_13_16_17 (v181, v185) _ ⟨Kd.Q_mono HO165.out (fun _ hk => ⟨hk.1.1, ⟨hk.1.2.1, ⟨hk.1.2.2, hk.2⟩⟩⟩), Kd.R_mono HO172.out (fun _ hk => ⟨hk.1.1, ⟨hk.1.2.1, ⟨hk.1.2.2, hk.2⟩⟩⟩), Kd.R_mono HO179.out (fun _ hk => ⟨hk.1.1, ⟨hk.1.2.1, ⟨hk.1.2.2, hk.2⟩⟩⟩), Kd.R_mono HO182.out (fun _ hk => ⟨hk.1.1, ⟨hk.1.2.1, ⟨hk.1.2.2, hk.2⟩⟩⟩), Kd.R_mono HO186.out (fun _ hk => ⟨hk.1.1.1.2, ⟨hk.1.1.2, ⟨hk.1.2, hk.2⟩⟩⟩), (by repeat (first | (with_reducible first | exact HB.out | apply below_alloc | apply pw_below_drewN | apply below_drew1) | exact HB.out))⟩)
  }
  }
  }
  {
  skip
  rintro v181 w39 ⟨h0_, h1_, h2_, h3_, h4_⟩
  have n0_ : Aside0 (Kd.Q (Kd.int .u8) 5 w39 w.heap.size (fun k_ => some k_ ≠ (v171 : Value).ownBlock ∧ some k_ ≠ (v178 : Value).ownBlock ∧ some k_ ≠ (v181 : Value).ownBlock) (.slice Ao21 y163.length co21) y163) := ⟨h0_⟩
  have n1_ : Aside0 (Kd.R (Kd.int .u8) 5 w39 w.heap.size (fun k_ => some k_ ≠ (.slice Ao21 y163.length co21 : Value).ownBlock ∧ some k_ ≠ (v178 : Value).ownBlock ∧ some k_ ≠ (v181 : Value).ownBlock) v171 t170) := ⟨h1_⟩
  have n2_ : Aside0 (Kd.R (Kd.int .u8) 5 w39 w.heap.size (fun k_ => some k_ ≠ (.slice Ao21 y163.length co21 : Value).ownBlock ∧ some k_ ≠ (v171 : Value).ownBlock ∧ some k_ ≠ (v181 : Value).ownBlock) v178 t177) := ⟨h2_⟩
  have n3_ : Aside0 (Kd.R (Kd.int .u8) 5 w39 w.heap.size (fun k_ => some k_ ≠ (.slice Ao21 y163.length co21 : Value).ownBlock ∧ some k_ ≠ (v171 : Value).ownBlock ∧ some k_ ≠ (v178 : Value).ownBlock) v181 t180) := ⟨h3_⟩
  have n4_ : Aside0 (Below w.heap.size w w39) := ⟨h4_⟩
  clear HO165
  clear HO172
  clear HO179
  clear HR169
  clear HR176
  clear HB
  clear h0_ h1_ h2_ h3_ h4_
  have HO165 := n0_
  have HO172 := n1_
  have HO179 := n2_
  have HO182 := n3_
  have HB := n4_
  clear n0_ n1_ n2_ n3_ n4_
  have hHeld := trivial
  refine norm_ (a' := ?_) ?_ ?_
  rotate_left
  {
  simp only [putAll, Act.put, List.setIfInBounds_toArray, List.set_cons_zero, List.set_cons_succ]
  rfl
  }
  refine two_ (i := 13) (j := 17) (Ni := some 49) (Nj := some 53) #[true, true, true, true, true, true, true, true, true, true, true, true, true, true, true, true, true, false, false, false, false, false, false, false, false, false, false, false, false, false] #[true, true, true, true, true, true, true, true, true, true, true, true, true, false, true, true, true, true, false, false, false, false, false, false, false, false, false, false, false, false] rfl rfl rfl rfl (two_of HT_.out (by kernel_rfl)) (by decide) (by decide) (fun K hK => ?_) (fun K hK => ?_)
  {
  skip
  have hcv40 := Kd.C_string (P := Try.prog) (A := A1) (c := c1) Try.underlying27 Try.underlying5 Try.underlying9 (Kd.C_below HR1.out HB.out); have hcv40N := fun m_ => Kd.C_string (P := Try.prog) (A := A1) (c := c1) Try.underlying27 Try.underlying5 Try.underlying9 (Kd.C_drewN (Kd.C_below HR1.out HB.out) m_)
  refine value_ (w1 := ?_) (v := ?_) (by rfl) rfl ?_ ?_
  rotate_left 2
  {
  go_simp
  constructor
  {
  rfl
  }
  {
  rfl
  }
  }
  clear hcv40
  refine hK.out _ _ trivial (fun hHeld => ?_)
  clear hK K
  refine norm_ (a' := ?_) ?_ ?_
  rotate_left
  {
  show Act.put _ (some 49) _ = _
  simp only [Act.put, List.setIfInBounds_toArray, List.set_cons_zero, List.set_cons_succ, i64_w, i32_w]
  rfl
  }
  exact norm_ (by first | (simp only [putAll, Act.put, List.setIfInBounds_toArray, List.set_cons_zero, List.set_cons_succ]; done) | (simp only [putAll, Act.put, List.setIfInBounds_toArray, List.set_cons_zero, List.set_cons_succ]; rfl)) (hJ1_3_5_6_11_13_16 (v181) _ ⟨HO165.out, HO172.out, HO179.out, HO182.out, (by repeat (first | (with_reducible first | exact HB.out | apply below_alloc | apply pw_below_drewN | apply below_drew1) | exact HB.out))⟩)
  }
  {
  skip
  refine goes_ Try.func12 (by kernel_rfl) rfl #[.int .u64 t183] (by rfl) rfl rfl (by (try simp only [List.map_toArray, List.map_cons, List.map_nil]); first | done | rfl | (simp only [List.length_drop, List.length_take]; rfl)) ?_
  with_reducible refine (ferruleref4_Put.calls k t183 t184 _ A29.out).mono ?_
  rintro e w40 ⟨v185, rfl, ho0, hb⟩
  refine ⟨_, rfl, ?_⟩
  have n0_ := Aside0.mk (Kd.Q_elder' (by (with_reducible repeat (first | apply Kd.Q_alloc | apply Kd.Q_drewN | apply Kd.Q_drew)); exact HO165.out) (Kd.R_base ho0) hb)
  have n1_ := Aside0.mk (Kd.R_elder' (by (with_reducible repeat (first | apply Kd.R_alloc | apply Kd.R_drewN | apply Kd.R_drew)); exact HO172.out) (Kd.R_base ho0) hb)
  have n2_ := Aside0.mk (Kd.R_elder' (by (with_reducible repeat (first | apply Kd.R_alloc | apply Kd.R_drewN | apply Kd.R_drew)); exact HO179.out) (Kd.R_base ho0) hb)
  have n3_ := Aside0.mk (Kd.R_elder' (by (with_reducible repeat (first | apply Kd.R_alloc | apply Kd.R_drewN | apply Kd.R_drew)); exact HO182.out) (Kd.R_base ho0) hb)
  have n4_ := Aside0.mk (Kd.R_lower (Kd.R_new' (Kd.R_new' (Kd.R_new' (Kd.R_new' ho0 (Kd.Q_lt (by (with_reducible repeat (first | apply Kd.Q_alloc | apply Kd.Q_drewN | apply Kd.Q_drew)); exact HO165.out))) (Kd.R_lt (by (with_reducible repeat (first | apply Kd.R_alloc | apply Kd.R_drewN | apply Kd.R_drew)); exact HO172.out))) (Kd.R_lt (by (with_reducible repeat (first | apply Kd.R_alloc | apply Kd.R_drewN | apply Kd.R_drew)); exact HO179.out))) (Kd.R_lt (by (with_reducible repeat (first | apply Kd.R_alloc | apply Kd.R_drewN | apply Kd.R_drew)); exact HO182.out))) (below_size (by repeat (first | (with_reducible first | exact HB.out | apply below_alloc | apply pw_below_drewN | apply below_drew1) | exact HB.out))))
  have n5_ := Aside0.mk (below_step (by repeat (first | (with_reducible first | exact HB.out | apply below_alloc | apply pw_below_drewN | apply below_drew1) | exact HB.out)) hb)
  clear HO165
  clear HO172
  clear HO179
  clear HO182
  clear HB
  have HO165 := n0_
  have HO172 := n1_
  have HO179 := n2_
  have HO182 := n3_
  have HO186 := n4_
  have HB := n5_
  clear n0_ n1_ n2_ n3_ n4_ n5_
  (try clear hb)
  (try clear hb2)
  (try clear hk)
  (try clear hi)
  (try clear ho0)
  refine hK.out _ _ trivial (fun hHeld => ?_)
  clear hK K
  refine norm_ (a' := ?_) ?_ ?_
  rotate_left
  {
  show Act.put _ (some 53) _ = _
  simp only [Act.put, List.setIfInBounds_toArray, List.set_cons_zero, List.set_cons_succ, i64_w, i32_w]
  rfl
  }
  exact norm_ (by first | (simp only [putAll, Act.put, List.setIfInBounds_toArray, List.set_cons_zero, List.set_cons_succ]; done) | (simp only [putAll, Act.put, List.setIfInBounds_toArray, List.set_cons_zero, List.set_cons_succ]; rfl)) (hJ1_3_5_6_11_16_17 (v181, v185) _ ⟨Kd.Q_mono HO165.out (fun _ hk => ⟨hk.1.1, ⟨hk.1.2.1, ⟨hk.1.2.2, hk.2⟩⟩⟩), Kd.R_mono HO172.out (fun _ hk => ⟨hk.1.1, ⟨hk.1.2.1, ⟨hk.1.2.2, hk.2⟩⟩⟩), Kd.R_mono HO179.out (fun _ hk => ⟨hk.1.1, ⟨hk.1.2.1, ⟨hk.1.2.2, hk.2⟩⟩⟩), Kd.R_mono HO182.out (fun _ hk => ⟨hk.1.1, ⟨hk.1.2.1, ⟨hk.1.2.2, hk.2⟩⟩⟩), Kd.R_mono HO186.out (fun _ hk => ⟨hk.1.1.1.2, ⟨hk.1.1.2, ⟨hk.1.2, hk.2⟩⟩⟩), (by repeat (first | (with_reducible first | exact HB.out | apply below_alloc | apply pw_below_drewN | apply below_drew1) | exact HB.out))⟩)
  }
  }
  }
  {
  skip
  rintro v181 w40 ⟨h0_, h1_, h2_, h3_, h4_⟩
  have n0_ : Aside0 (Kd.Q (Kd.int .u8) 5 w40 w.heap.size (fun k_ => some k_ ≠ (v171 : Value).ownBlock ∧ some k_ ≠ (v178 : Value).ownBlock ∧ some k_ ≠ (v181 : Value).ownBlock) (.slice Ao21 y163.length co21) y163) := ⟨h0_⟩
  have n1_ : Aside0 (Kd.R (Kd.int .u8) 5 w40 w.heap.size (fun k_ => some k_ ≠ (.slice Ao21 y163.length co21 : Value).ownBlock ∧ some k_ ≠ (v178 : Value).ownBlock ∧ some k_ ≠ (v181 : Value).ownBlock) v171 t170) := ⟨h1_⟩
  have n2_ : Aside0 (Kd.R (Kd.int .u8) 5 w40 w.heap.size (fun k_ => some k_ ≠ (.slice Ao21 y163.length co21 : Value).ownBlock ∧ some k_ ≠ (v171 : Value).ownBlock ∧ some k_ ≠ (v181 : Value).ownBlock) v178 t177) := ⟨h2_⟩
  have n3_ : Aside0 (Kd.R (Kd.int .u8) 5 w40 w.heap.size (fun k_ => some k_ ≠ (.slice Ao21 y163.length co21 : Value).ownBlock ∧ some k_ ≠ (v171 : Value).ownBlock ∧ some k_ ≠ (v178 : Value).ownBlock) v181 t180) := ⟨h3_⟩
  have n4_ : Aside0 (Below w.heap.size w w40) := ⟨h4_⟩
  clear HO165
  clear HO172
  clear HO179
  clear HR169
  clear HR176
  clear HB
  clear h0_ h1_ h2_ h3_ h4_
  have HO165 := n0_
  have HO172 := n1_
  have HO179 := n2_
  have HO182 := n3_
  have HB := n4_
  clear n0_ n1_ n2_ n3_ n4_
  have hHeld := trivial
  refine norm_ (a' := ?_) ?_ ?_
  rotate_left
  {
  simp only [putAll, Act.put, List.setIfInBounds_toArray, List.set_cons_zero, List.set_cons_succ]
  rfl
  }
  refine one_ (i := 16) (N := some 52) #[true, true, true, true, true, true, true, true, true, true, true, true, true, true, true, true, true, false, false, false, false, false, false, false, false, false, false, false, false, false] rfl rfl (one_of HT_.out (by kernel_rfl)) (by decide) (fun K hK => ?_)
  refine goes_ Try.func13 (by kernel_rfl) rfl #[.int .i64 (wrap64 (a0))] (by rfl) rfl rfl (by (try simp only [List.map_toArray, List.map_cons, List.map_nil]); first | done | rfl | (simp only [List.length_drop, List.length_take]; rfl)) ?_
  with_reducible refine (ferruleref4_Of.calls (wrap64 (a0)) t183 _ A28.out).mono ?_
  rintro e w' ⟨rfl, ⟨nd, rfl⟩⟩
  refine ⟨_, rfl, ?_⟩
  refine hK.out _ _ trivial (fun hHeld => ?_)
  clear hK K
  refine norm_ (a' := ?_) ?_ ?_
  rotate_left
  {
  show Act.put _ (some 52) _ = _
  simp only [Act.put, List.setIfInBounds_toArray, List.set_cons_zero, List.set_cons_succ, i64_w, i32_w]
  rfl
  }
  exact norm_ (by first | (simp only [putAll, Act.put, List.setIfInBounds_toArray, List.set_cons_zero, List.set_cons_succ]; done) | (simp only [putAll, Act.put, List.setIfInBounds_toArray, List.set_cons_zero, List.set_cons_succ]; rfl)) (hJ1_3_5_6_11_13_16 (v181) _ ⟨HO165.out, HO172.out, HO179.out, HO182.out, (by repeat (first | (with_reducible first | exact HB.out | apply below_alloc | apply pw_below_drewN | apply below_drew1) | exact HB.out))⟩)
  }
  }
  {
  skip
  rintro ⟨v181, v185⟩ w40 ⟨h0_, h1_, h2_, h3_, h4_, h5_⟩
  have n0_ : Aside0 (Kd.Q (Kd.int .u8) 5 w40 w.heap.size (fun k_ => some k_ ≠ (v171 : Value).ownBlock ∧ some k_ ≠ (v178 : Value).ownBlock ∧ some k_ ≠ (v181 : Value).ownBlock ∧ some k_ ≠ (v185 : Value).ownBlock) (.slice Ao21 y163.length co21) y163) := ⟨h0_⟩
  have n1_ : Aside0 (Kd.R (Kd.int .u8) 5 w40 w.heap.size (fun k_ => some k_ ≠ (.slice Ao21 y163.length co21 : Value).ownBlock ∧ some k_ ≠ (v178 : Value).ownBlock ∧ some k_ ≠ (v181 : Value).ownBlock ∧ some k_ ≠ (v185 : Value).ownBlock) v171 t170) := ⟨h1_⟩
  have n2_ : Aside0 (Kd.R (Kd.int .u8) 5 w40 w.heap.size (fun k_ => some k_ ≠ (.slice Ao21 y163.length co21 : Value).ownBlock ∧ some k_ ≠ (v171 : Value).ownBlock ∧ some k_ ≠ (v181 : Value).ownBlock ∧ some k_ ≠ (v185 : Value).ownBlock) v178 t177) := ⟨h2_⟩
  have n3_ : Aside0 (Kd.R (Kd.int .u8) 5 w40 w.heap.size (fun k_ => some k_ ≠ (.slice Ao21 y163.length co21 : Value).ownBlock ∧ some k_ ≠ (v171 : Value).ownBlock ∧ some k_ ≠ (v178 : Value).ownBlock ∧ some k_ ≠ (v185 : Value).ownBlock) v181 t180) := ⟨h3_⟩
  have n4_ : Aside0 (Kd.R (Kd.int .u8) 5 w40 w.heap.size (fun k_ => some k_ ≠ (.slice Ao21 y163.length co21 : Value).ownBlock ∧ some k_ ≠ (v171 : Value).ownBlock ∧ some k_ ≠ (v178 : Value).ownBlock ∧ some k_ ≠ (v181 : Value).ownBlock) v185 t184) := ⟨h4_⟩
  have n5_ : Aside0 (Below w.heap.size w w40) := ⟨h5_⟩
  clear HO165
  clear HO172
  clear HO179
  clear HR169
  clear HR176
  clear HB
  clear h0_ h1_ h2_ h3_ h4_ h5_
  have HO165 := n0_
  have HO172 := n1_
  have HO179 := n2_
  have HO182 := n3_
  have HO186 := n4_
  have HB := n5_
  clear n0_ n1_ n2_ n3_ n4_ n5_
  have hHeld := trivial
  refine norm_ (a' := ?_) ?_ ?_
  rotate_left
  {
  simp only [putAll, Act.put, List.setIfInBounds_toArray, List.set_cons_zero, List.set_cons_succ]
  rfl
  }
  refine two_ (i := 11) (j := 13) (Ni := some 47) (Nj := some 49) #[true, true, true, true, true, true, true, true, true, true, true, true, true, false, true, true, true, true, true, false, false, false, false, false, false, false, false, false, false, false] #[true, true, true, true, true, true, true, true, true, true, true, false, true, true, true, true, true, true, true, false, false, false, false, false, false, false, false, false, false, false] rfl rfl rfl rfl (two_of HT_.out (by kernel_rfl)) (by decide) (by decide) (fun K hK => ?_) (fun K hK => ?_)
  {
  skip
  have hcv41 := own_string (P := Try.prog) Try.underlying27 Try.underlying5 Try.underlying9 (Kd.own_of_R HO179.out)
  refine value_ (w1 := ?_) (v := ?_) (by rfl) rfl ?_ ?_
  rotate_left 2
  {
  go_simp
  constructor
  {
  rfl
  }
  {
  rfl
  }
  }
  clear hcv41
  refine hK.out _ _ trivial (fun hHeld => ?_)
  clear hK K
  refine norm_ (a' := ?_) ?_ ?_
  rotate_left
  {
  show Act.put _ (some 47) _ = _
  simp only [Act.put, List.setIfInBounds_toArray, List.set_cons_zero, List.set_cons_succ, i64_w, i32_w]
  rfl
  }
  exact norm_ (by first | (simp only [putAll, Act.put, List.setIfInBounds_toArray, List.set_cons_zero, List.set_cons_succ]; done) | (simp only [putAll, Act.put, List.setIfInBounds_toArray, List.set_cons_zero, List.set_cons_succ]; rfl)) (hJ1_3_5_6_11_16_17_18 (v181, v185) _ ⟨HO165.out, HO172.out, HO179.out, HO182.out, HO186.out, (by repeat (first | (with_reducible first | exact HB.out | apply below_alloc | apply pw_below_drewN | apply below_drew1) | exact HB.out))⟩)
  }
  {
  skip
  have hcv41 := Kd.C_string (P := Try.prog) (A := A1) (c := c1) Try.underlying27 Try.underlying5 Try.underlying9 (Kd.C_below HR1.out HB.out); have hcv41N := fun m_ => Kd.C_string (P := Try.prog) (A := A1) (c := c1) Try.underlying27 Try.underlying5 Try.underlying9 (Kd.C_drewN (Kd.C_below HR1.out HB.out) m_)
  refine value_ (w1 := ?_) (v := ?_) (by rfl) rfl ?_ ?_
  rotate_left 2
  {
  go_simp
  constructor
  {
  rfl
  }
  {
  rfl
  }
  }
  clear hcv41
  refine hK.out _ _ trivial (fun hHeld => ?_)
  clear hK K
  refine norm_ (a' := ?_) ?_ ?_
  rotate_left
  {
  show Act.put _ (some 49) _ = _
  simp only [Act.put, List.setIfInBounds_toArray, List.set_cons_zero, List.set_cons_succ, i64_w, i32_w]
  rfl
  }
  refine pure_ (i := 19) (N := some 55) (v := ?_) (a' := ?_) #[true, true, true, true, true, true, true, true, true, true, true, false, true, true, true, true, true, true, true, true, false, false, false, false, false, false, false, false, false, false] rfl rfl (any_of HT_.out (by kernel_rfl)) (fun _ _ _ h => h) (Or.inl ⟨by rfl, ?_⟩) ?_ ?_
  rotate_left
  {
  intro w'
  go_simp
  with_reducible rfl
  }
  rotate_left
  {
  simp only [Act.put, List.setIfInBounds_toArray, List.set_cons_zero, List.set_cons_succ, i64_w, i32_w]
  rfl
  }
  exact norm_ (by first | (simp only [putAll, Act.put, List.setIfInBounds_toArray, List.set_cons_zero, List.set_cons_succ]; done) | (simp only [putAll, Act.put, List.setIfInBounds_toArray, List.set_cons_zero, List.set_cons_succ]; rfl)) (hJ1_3_5_6_13_16_17_18 (v181, v185) _ ⟨HO165.out, HO172.out, HO179.out, HO182.out, HO186.out, (by repeat (first | (with_reducible first | exact HB.out | apply below_alloc | apply pw_below_drewN | apply below_drew1) | exact HB.out))⟩)
  }
  }
  }
  {
  skip
  rintro ⟨v181, v185⟩ w40 ⟨h0_, h1_, h2_, h3_, h4_, h5_⟩
  have n0_ : Aside0 (Kd.Q (Kd.int .u8) 5 w40 w.heap.size (fun k_ => some k_ ≠ (v171 : Value).ownBlock ∧ some k_ ≠ (v178 : Value).ownBlock ∧ some k_ ≠ (v181 : Value).ownBlock ∧ some k_ ≠ (v185 : Value).ownBlock) (.slice Ao21 y163.length co21) y163) := ⟨h0_⟩
  have n1_ : Aside0 (Kd.R (Kd.int .u8) 5 w40 w.heap.size (fun k_ => some k_ ≠ (.slice Ao21 y163.length co21 : Value).ownBlock ∧ some k_ ≠ (v178 : Value).ownBlock ∧ some k_ ≠ (v181 : Value).ownBlock ∧ some k_ ≠ (v185 : Value).ownBlock) v171 t170) := ⟨h1_⟩
  have n2_ : Aside0 (Kd.R (Kd.int .u8) 5 w40 w.heap.size (fun k_ => some k_ ≠ (.slice Ao21 y163.length co21 : Value).ownBlock ∧ some k_ ≠ (v171 : Value).ownBlock ∧ some k_ ≠ (v181 : Value).ownBlock ∧ some k_ ≠ (v185 : Value).ownBlock) v178 t177) := ⟨h2_⟩
  have n3_ : Aside0 (Kd.R (Kd.int .u8) 5 w40 w.heap.size (fun k_ => some k_ ≠ (.slice Ao21 y163.length co21 : Value).ownBlock ∧ some k_ ≠ (v171 : Value).ownBlock ∧ some k_ ≠ (v178 : Value).ownBlock ∧ some k_ ≠ (v185 : Value).ownBlock) v181 t180) := ⟨h3_⟩
  have n4_ : Aside0 (Kd.R (Kd.int .u8) 5 w40 w.heap.size (fun k_ => some k_ ≠ (.slice Ao21 y163.length co21 : Value).ownBlock ∧ some k_ ≠ (v171 : Value).ownBlock ∧ some k_ ≠ (v178 : Value).ownBlock ∧ some k_ ≠ (v181 : Value).ownBlock) v185 t184) := ⟨h4_⟩
  have n5_ : Aside0 (Below w.heap.size w w40) := ⟨h5_⟩
  clear HO165
  clear HO172
  clear HO179
  clear HR169
  clear HR176
  clear HB
  clear h0_ h1_ h2_ h3_ h4_ h5_
  have HO165 := n0_
  have HO172 := n1_
  have HO179 := n2_
  have HO182 := n3_
  have HO186 := n4_
  have HB := n5_
  clear n0_ n1_ n2_ n3_ n4_ n5_
  have hHeld := trivial
  refine norm_ (a' := ?_) ?_ ?_
  rotate_left
  {
  simp only [putAll, Act.put, List.setIfInBounds_toArray, List.set_cons_zero, List.set_cons_succ]
  rfl
  }
  refine two_ (i := 11) (j := 18) (Ni := some 47) (Nj := some 54) #[true, true, true, true, true, true, true, true, true, true, true, true, true, true, true, true, true, true, false, false, false, false, false, false, false, false, false, false, false, false] #[true, true, true, true, true, true, true, true, true, true, true, false, true, true, true, true, true, true, true, false, false, false, false, false, false, false, false, false, false, false] rfl rfl rfl rfl (two_of HT_.out (by kernel_rfl)) (by decide) (by decide) (fun K hK => ?_) (fun K hK => ?_)
  {
  skip
  have hcv41 := own_string (P := Try.prog) Try.underlying27 Try.underlying5 Try.underlying9 (Kd.own_of_R HO179.out)
  refine value_ (w1 := ?_) (v := ?_) (by rfl) rfl ?_ ?_
  rotate_left 2
  {
  go_simp
  constructor
  {
  rfl
  }
  {
  rfl
  }
  }
  clear hcv41
  refine hK.out _ _ trivial (fun hHeld => ?_)
  clear hK K
  refine norm_ (a' := ?_) ?_ ?_
  rotate_left
  {
  show Act.put _ (some 47) _ = _
  simp only [Act.put, List.setIfInBounds_toArray, List.set_cons_zero, List.set_cons_succ, i64_w, i32_w]
  rfl
  }
  exact norm_ (by first | (simp only [putAll, Act.put, List.setIfInBounds_toArray, List.set_cons_zero, List.set_cons_succ]; done) | (simp only [putAll, Act.put, List.setIfInBounds_toArray, List.set_cons_zero, List.set_cons_succ]; rfl)) (hJ1_3_5_6_11_13_16_17 (v181, v185) _ ⟨HO165.out, HO172.out, HO179.out, HO182.out, HO186.out, (by repeat (first | (with_reducible first | exact HB.out | apply below_alloc | apply pw_below_drewN | apply below_drew1) | exact HB.out))⟩)
  }
  {
  skip
  have hcv41 := own_string (P := Try.prog) Try.underlying27 Try.underlying5 Try.underlying9 (Kd.own_of_R HO186.out)
  refine value_ (w1 := ?_) (v := ?_) (by rfl) rfl ?_ ?_
  rotate_left 2
  {
  go_simp
  constructor
  {
  rfl
  }
  {
  rfl
  }
  }
  clear hcv41
  refine hK.out _ _ trivial (fun hHeld => ?_)
  clear hK K
  refine norm_ (a' := ?_) ?_ ?_
  rotate_left
  {
  show Act.put _ (some 54) _ = _
  simp only [Act.put, List.setIfInBounds_toArray, List.set_cons_zero, List.set_cons_succ, i64_w, i32_w]
  rfl
  }
  refine pure_ (i := 19) (N := some 55) (v := ?_) (a' := ?_) #[true, true, true, true, true, true, true, true, true, true, true, false, true, true, true, true, true, true, true, true, false, false, false, false, false, false, false, false, false, false] rfl rfl (any_of HT_.out (by kernel_rfl)) (fun _ _ _ h => h) (Or.inl ⟨by rfl, ?_⟩) ?_ ?_
  rotate_left
  {
  intro w'
  go_simp
  with_reducible rfl
  }
  rotate_left
  {
  simp only [Act.put, List.setIfInBounds_toArray, List.set_cons_zero, List.set_cons_succ, i64_w, i32_w]
  rfl
  }
  exact norm_ (by first | (simp only [putAll, Act.put, List.setIfInBounds_toArray, List.set_cons_zero, List.set_cons_succ]; done) | (simp only [putAll, Act.put, List.setIfInBounds_toArray, List.set_cons_zero, List.set_cons_succ]; rfl)) (hJ1_3_5_6_13_16_17_18 (v181, v185) _ ⟨HO165.out, HO172.out, HO179.out, HO182.out, HO186.out, (by repeat (first | (with_reducible first | exact HB.out | apply below_alloc | apply pw_below_drewN | apply below_drew1) | exact HB.out))⟩)
  }
  }
  }
  {
  skip
  rintro ⟨v181, v185⟩ w40 ⟨h0_, h1_, h2_, h3_, h4_, h5_⟩
  have n0_ : Aside0 (Kd.Q (Kd.int .u8) 5 w40 w.heap.size (fun k_ => some k_ ≠ (v171 : Value).ownBlock ∧ some k_ ≠ (v178 : Value).ownBlock ∧ some k_ ≠ (v181 : Value).ownBlock ∧ some k_ ≠ (v185 : Value).ownBlock) (.slice Ao21 y163.length co21) y163) := ⟨h0_⟩
  have n1_ : Aside0 (Kd.R (Kd.int .u8) 5 w40 w.heap.size (fun k_ => some k_ ≠ (.slice Ao21 y163.length co21 : Value).ownBlock ∧ some k_ ≠ (v178 : Value).ownBlock ∧ some k_ ≠ (v181 : Value).ownBlock ∧ some k_ ≠ (v185 : Value).ownBlock) v171 t170) := ⟨h1_⟩
  have n2_ : Aside0 (Kd.R (Kd.int .u8) 5 w40 w.heap.size (fun k_ => some k_ ≠ (.slice Ao21 y163.length co21 : Value).ownBlock ∧ some k_ ≠ (v171 : Value).ownBlock ∧ some k_ ≠ (v181 : Value).ownBlock ∧ some k_ ≠ (v185 : Value).ownBlock) v178 t177) := ⟨h2_⟩
  have n3_ : Aside0 (Kd.R (Kd.int .u8) 5 w40 w.heap.size (fun k_ => some k_ ≠ (.slice Ao21 y163.length co21 : Value).ownBlock ∧ some k_ ≠ (v171 : Value).ownBlock ∧ some k_ ≠ (v178 : Value).ownBlock ∧ some k_ ≠ (v185 : Value).ownBlock) v181 t180) := ⟨h3_⟩
  have n4_ : Aside0 (Kd.R (Kd.int .u8) 5 w40 w.heap.size (fun k_ => some k_ ≠ (.slice Ao21 y163.length co21 : Value).ownBlock ∧ some k_ ≠ (v171 : Value).ownBlock ∧ some k_ ≠ (v178 : Value).ownBlock ∧ some k_ ≠ (v181 : Value).ownBlock) v185 t184) := ⟨h4_⟩
  have n5_ : Aside0 (Below w.heap.size w w40) := ⟨h5_⟩
  clear HO165
  clear HO172
  clear HO179
  clear HR169
  clear HR176
  clear HB
  clear h0_ h1_ h2_ h3_ h4_ h5_
  have HO165 := n0_
  have HO172 := n1_
  have HO179 := n2_
  have HO182 := n3_
  have HO186 := n4_
  have HB := n5_
  clear n0_ n1_ n2_ n3_ n4_ n5_
  have hHeld := trivial
  refine norm_ (a' := ?_) ?_ ?_
  rotate_left
  {
  simp only [putAll, Act.put, List.setIfInBounds_toArray, List.set_cons_zero, List.set_cons_succ]
  rfl
  }
  refine two_ (i := 13) (j := 18) (Ni := some 49) (Nj := some 54) #[true, true, true, true, true, true, true, true, true, true, true, true, true, true, true, true, true, true, false, false, false, false, false, false, false, false, false, false, false, false] #[true, true, true, true, true, true, true, true, true, true, true, true, true, false, true, true, true, true, true, false, false, false, false, false, false, false, false, false, false, false] rfl rfl rfl rfl (two_of HT_.out (by kernel_rfl)) (by decide) (by decide) (fun K hK => ?_) (fun K hK => ?_)
  {
  skip
  have hcv41 := Kd.C_string (P := Try.prog) (A := A1) (c := c1) Try.underlying27 Try.underlying5 Try.underlying9 (Kd.C_below HR1.out HB.out); have hcv41N := fun m_ => Kd.C_string (P := Try.prog) (A := A1) (c := c1) Try.underlying27 Try.underlying5 Try.underlying9 (Kd.C_drewN (Kd.C_below HR1.out HB.out) m_)
  refine value_ (w1 := ?_) (v := ?_) (by rfl) rfl ?_ ?_
  rotate_left 2
  {
  go_simp
  constructor
  {
  rfl
  }
  {
  rfl
  }
  }
  clear hcv41
  refine hK.out _ _ trivial (fun hHeld => ?_)
  clear hK K
  refine norm_ (a' := ?_) ?_ ?_
  rotate_left
  {
  show Act.put _ (some 49) _ = _
  simp only [Act.put, List.setIfInBounds_toArray, List.set_cons_zero, List.set_cons_succ, i64_w, i32_w]
  rfl
  }
  exact norm_ (by first | (simp only [putAll, Act.put, List.setIfInBounds_toArray, List.set_cons_zero, List.set_cons_succ]; done) | (simp only [putAll, Act.put, List.setIfInBounds_toArray, List.set_cons_zero, List.set_cons_succ]; rfl)) (hJ1_3_5_6_11_13_16_17 (v181, v185) _ ⟨HO165.out, HO172.out, HO179.out, HO182.out, HO186.out, (by repeat (first | (with_reducible first | exact HB.out | apply below_alloc | apply pw_below_drewN | apply below_drew1) | exact HB.out))⟩)
  }
  {
  skip
  have hcv41 := own_string (P := Try.prog) Try.underlying27 Try.underlying5 Try.underlying9 (Kd.own_of_R HO186.out)
  refine value_ (w1 := ?_) (v := ?_) (by rfl) rfl ?_ ?_
  rotate_left 2
  {
  go_simp
  constructor
  {
  rfl
  }
  {
  rfl
  }
  }
  clear hcv41
  refine hK.out _ _ trivial (fun hHeld => ?_)
  clear hK K
  refine norm_ (a' := ?_) ?_ ?_
  rotate_left
  {
  show Act.put _ (some 54) _ = _
  simp only [Act.put, List.setIfInBounds_toArray, List.set_cons_zero, List.set_cons_succ, i64_w, i32_w]
  rfl
  }
  exact norm_ (by first | (simp only [putAll, Act.put, List.setIfInBounds_toArray, List.set_cons_zero, List.set_cons_succ]; done) | (simp only [putAll, Act.put, List.setIfInBounds_toArray, List.set_cons_zero, List.set_cons_succ]; rfl)) (hJ1_3_5_6_11_16_17_18 (v181, v185) _ ⟨HO165.out, HO172.out, HO179.out, HO182.out, HO186.out, (by repeat (first | (with_reducible first | exact HB.out | apply below_alloc | apply pw_below_drewN | apply below_drew1) | exact HB.out))⟩)
  }
  }
  }
  {
  skip
  rintro v181 w40 ⟨h0_, h1_, h2_, h3_, h4_⟩
  have n0_ : Aside0 (Kd.Q (Kd.int .u8) 5 w40 w.heap.size (fun k_ => some k_ ≠ (v171 : Value).ownBlock ∧ some k_ ≠ (v178 : Value).ownBlock ∧ some k_ ≠ (v181 : Value).ownBlock) (.slice Ao21 y163.length co21) y163) := ⟨h0_⟩
  have n1_ : Aside0 (Kd.R (Kd.int .u8) 5 w40 w.heap.size (fun k_ => some k_ ≠ (.slice Ao21 y163.length co21 : Value).ownBlock ∧ some k_ ≠ (v178 : Value).ownBlock ∧ some k_ ≠ (v181 : Value).ownBlock) v171 t170) := ⟨h1_⟩
  have n2_ : Aside0 (Kd.R (Kd.int .u8) 5 w40 w.heap.size (fun k_ => some k_ ≠ (.slice Ao21 y163.length co21 : Value).ownBlock ∧ some k_ ≠ (v171 : Value).ownBlock ∧ some k_ ≠ (v181 : Value).ownBlock) v178 t177) := ⟨h2_⟩
  have n3_ : Aside0 (Kd.R (Kd.int .u8) 5 w40 w.heap.size (fun k_ => some k_ ≠ (.slice Ao21 y163.length co21 : Value).ownBlock ∧ some k_ ≠ (v171 : Value).ownBlock ∧ some k_ ≠ (v178 : Value).ownBlock) v181 t180) := ⟨h3_⟩
  have n4_ : Aside0 (Below w.heap.size w w40) := ⟨h4_⟩
  clear HO165
  clear HO172
  clear HO179
  clear HR169
  clear HR176
  clear HB
  clear h0_ h1_ h2_ h3_ h4_
  have HO165 := n0_
  have HO172 := n1_
  have HO179 := n2_
  have HO182 := n3_
  have HB := n4_
  clear n0_ n1_ n2_ n3_ n4_
  have hHeld := trivial
  refine norm_ (a' := ?_) ?_ ?_
  rotate_left
  {
  simp only [putAll, Act.put, List.setIfInBounds_toArray, List.set_cons_zero, List.set_cons_succ]
  rfl
  }
  refine one_ (i := 17) (N := some 53) #[true, true, true, true, true, true, true, true, true, true, true, true, true, true, true, true, true, true, false, false, false, false, false, false, false, false, false, false, false, false] rfl rfl (one_of HT_.out (by kernel_rfl)) (by decide) (fun K hK => ?_)
  refine goes_ Try.func12 (by kernel_rfl) rfl #[.int .u64 t183] (by rfl) rfl rfl (by (try simp only [List.map_toArray, List.map_cons, List.map_nil]); first | done | rfl | (simp only [List.length_drop, List.length_take]; rfl)) ?_
  with_reducible refine (ferruleref4_Put.calls k t183 t184 _ A29.out).mono ?_
  rintro e w41 ⟨v185, rfl, ho0, hb⟩
  refine ⟨_, rfl, ?_⟩
  have n0_ := Aside0.mk (Kd.Q_elder' (by (with_reducible repeat (first | apply Kd.Q_alloc | apply Kd.Q_drewN | apply Kd.Q_drew)); exact HO165.out) (Kd.R_base ho0) hb)
  have n1_ := Aside0.mk (Kd.R_elder' (by (with_reducible repeat (first | apply Kd.R_alloc | apply Kd.R_drewN | apply Kd.R_drew)); exact HO172.out) (Kd.R_base ho0) hb)
  have n2_ := Aside0.mk (Kd.R_elder' (by (with_reducible repeat (first | apply Kd.R_alloc | apply Kd.R_drewN | apply Kd.R_drew)); exact HO179.out) (Kd.R_base ho0) hb)
  have n3_ := Aside0.mk (Kd.R_elder' (by (with_reducible repeat (first | apply Kd.R_alloc | apply Kd.R_drewN | apply Kd.R_drew)); exact HO182.out) (Kd.R_base ho0) hb)
  have n4_ := Aside0.mk (Kd.R_lower (Kd.R_new' (Kd.R_new' (Kd.R_new' (Kd.R_new' ho0 (Kd.Q_lt (by (with_reducible repeat (first | apply Kd.Q_alloc | apply Kd.Q_drewN | apply Kd.Q_drew)); exact HO165.out))) (Kd.R_lt (by (with_reducible repeat (first | apply Kd.R_alloc | apply Kd.R_drewN | apply Kd.R_drew)); exact HO172.out))) (Kd.R_lt (by (with_reducible repeat (first | apply Kd.R_alloc | apply Kd.R_drewN | apply Kd.R_drew)); exact HO179.out))) (Kd.R_lt (by (with_reducible repeat (first | apply Kd.R_alloc | apply Kd.R_drewN | apply Kd.R_drew)); exact HO182.out))) (below_size (by repeat (first | (with_reducible first | exact HB.out | apply below_alloc | apply pw_below_drewN | apply below_drew1) | exact HB.out))))
  have n5_ := Aside0.mk (below_step (by repeat (first | (with_reducible first | exact HB.out | apply below_alloc | apply pw_below_drewN | apply below_drew1) | exact HB.out)) hb)
  clear HO165
  clear HO172
  clear HO179
  clear HO182
  clear HB
  have HO165 := n0_
  have HO172 := n1_
  have HO179 := n2_
  have HO182 := n3_
  have HO186 := n4_
  have HB := n5_
  clear n0_ n1_ n2_ n3_ n4_ n5_
  (try clear hb)
  (try clear hb2)
  (try clear hk)
  (try clear hi)
  (try clear ho0)
  refine hK.out _ _ trivial (fun hHeld => ?_)
  clear hK K
  refine norm_ (a' := ?_) ?_ ?_
  rotate_left
  {
  show Act.put _ (some 53) _ = _
  simp only [Act.put, List.setIfInBounds_toArray, List.set_cons_zero, List.set_cons_succ, i64_w, i32_w]
  rfl
  }
  exact norm_ (by first | (simp only [putAll, Act.put, List.setIfInBounds_toArray, List.set_cons_zero, List.set_cons_succ]; done) | (simp only [putAll, Act.put, List.setIfInBounds_toArray, List.set_cons_zero, List.set_cons_succ]; rfl)) (hJ1_3_5_6_11_13_16_17 (v181, v185) _ ⟨Kd.Q_mono HO165.out (fun _ hk => ⟨hk.1.1, ⟨hk.1.2.1, ⟨hk.1.2.2, hk.2⟩⟩⟩), Kd.R_mono HO172.out (fun _ hk => ⟨hk.1.1, ⟨hk.1.2.1, ⟨hk.1.2.2, hk.2⟩⟩⟩), Kd.R_mono HO179.out (fun _ hk => ⟨hk.1.1, ⟨hk.1.2.1, ⟨hk.1.2.2, hk.2⟩⟩⟩), Kd.R_mono HO182.out (fun _ hk => ⟨hk.1.1, ⟨hk.1.2.1, ⟨hk.1.2.2, hk.2⟩⟩⟩), Kd.R_mono HO186.out (fun _ hk => ⟨hk.1.1.1.2, ⟨hk.1.1.2, ⟨hk.1.2, hk.2⟩⟩⟩), (by repeat (first | (with_reducible first | exact HB.out | apply below_alloc | apply pw_below_drewN | apply below_drew1) | exact HB.out))⟩)
  }
  }
  {
  skip
  rintro ⟨v181, v185⟩ w41 ⟨h0_, h1_, h2_, h3_, h4_, h5_⟩
  have n0_ : Aside0 (Kd.Q (Kd.int .u8) 5 w41 w.heap.size (fun k_ => some k_ ≠ (v171 : Value).ownBlock ∧ some k_ ≠ (v178 : Value).ownBlock ∧ some k_ ≠ (v181 : Value).ownBlock ∧ some k_ ≠ (v185 : Value).ownBlock) (.slice Ao21 y163.length co21) y163) := ⟨h0_⟩
  have n1_ : Aside0 (Kd.R (Kd.int .u8) 5 w41 w.heap.size (fun k_ => some k_ ≠ (.slice Ao21 y163.length co21 : Value).ownBlock ∧ some k_ ≠ (v178 : Value).ownBlock ∧ some k_ ≠ (v181 : Value).ownBlock ∧ some k_ ≠ (v185 : Value).ownBlock) v171 t170) := ⟨h1_⟩
  have n2_ : Aside0 (Kd.R (Kd.int .u8) 5 w41 w.heap.size (fun k_ => some k_ ≠ (.slice Ao21 y163.length co21 : Value).ownBlock ∧ some k_ ≠ (v171 : Value).ownBlock ∧ some k_ ≠ (v181 : Value).ownBlock ∧ some k_ ≠ (v185 : Value).ownBlock) v178 t177) := ⟨h2_⟩
  have n3_ : Aside0 (Kd.R (Kd.int .u8) 5 w41 w.heap.size (fun k_ => some k_ ≠ (.slice Ao21 y163.length co21 : Value).ownBlock ∧ some k_ ≠ (v171 : Value).ownBlock ∧ some k_ ≠ (v178 : Value).ownBlock ∧ some k_ ≠ (v185 : Value).ownBlock) v181 t180) := ⟨h3_⟩
  have n4_ : Aside0 (Kd.R (Kd.int .u8) 5 w41 w.heap.size (fun k_ => some k_ ≠ (.slice Ao21 y163.length co21 : Value).ownBlock ∧ some k_ ≠ (v171 : Value).ownBlock ∧ some k_ ≠ (v178 : Value).ownBlock ∧ some k_ ≠ (v181 : Value).ownBlock) v185 t184) := ⟨h4_⟩
  have n5_ : Aside0 (Below w.heap.size w w41) := ⟨h5_⟩
  clear HO165
  clear HO172
  clear HO179
  clear HR169
  clear HR176
  clear HB
  clear h0_ h1_ h2_ h3_ h4_ h5_
  have HO165 := n0_
  have HO172 := n1_
  have HO179 := n2_
  have HO182 := n3_
  have HO186 := n4_
  have HB := n5_
  clear n0_ n1_ n2_ n3_ n4_ n5_
  have hHeld := trivial
  refine norm_ (a' := ?_) ?_ ?_
  rotate_left
  {
  simp only [putAll, Act.put, List.setIfInBounds_toArray, List.set_cons_zero, List.set_cons_succ]
  rfl
  }
  refine one_ (i := 11) (N := some 47) #[true, true, true, true, true, true, true, true, true, true, true, true, true, true, true, true, true, true, true, true, false, false, false, false, false, false, false, false, false, false] rfl rfl (one_of HT_.out (by kernel_rfl)) (by decide) (fun K hK => ?_)
  have hcv42 := own_string (P := Try.prog) Try.underlying27 Try.underlying5 Try.underlying9 (Kd.own_of_R HO179.out)
  refine value_ (w1 := ?_) (v := ?_) (by rfl) rfl ?_ ?_
  rotate_left 2
  {
  go_simp
  constructor
  {
  rfl
  }
  {
  rfl
  }
  }
  clear hcv42
  refine hK.out _ _ trivial (fun hHeld => ?_)
  clear hK K
  refine norm_ (a' := ?_) ?_ ?_
  rotate_left
  {
  show Act.put _ (some 47) _ = _
  simp only [Act.put, List.setIfInBounds_toArray, List.set_cons_zero, List.set_cons_succ, i64_w, i32_w]
  rfl
  }
  refine pure_ (i := 20) (N := some 56) (v := ?_) (a' := ?_) #[true, true, true, true, true, true, true, true, true, true, true, true, true, true, true, true, true, true, true, true, true, false, false, false, false, false, false, false, false, false] rfl rfl (any_of HT_.out (by kernel_rfl)) (fun _ _ _ h => h) (Or.inl ⟨by rfl, ?_⟩) ?_ ?_
  rotate_left
  {
  intro w'
  go_simp
  with_reducible rfl
  }
  rotate_left
  {
  simp only [Act.put, List.setIfInBounds_toArray, List.set_cons_zero, List.set_cons_succ, i64_w, i32_w]
  rfl
  }
  refine pure_ (i := 21) (N := some 57) (v := ?_) (a' := ?_) #[true, true, true, true, true, true, true, true, true, true, true, true, true, true, true, true, true, true, true, true, true, true, false, false, false, false, false, false, false, false] rfl rfl (any_of HT_.out (by kernel_rfl)) (fun _ _ _ h => h) (Or.inl ⟨by rfl, ?_⟩) ?_ ?_
  rotate_left
  {
  intro w'
  go_simp
  with_reducible rfl
  }
  rotate_left
  {
  simp only [Act.put, List.setIfInBounds_toArray, List.set_cons_zero, List.set_cons_succ, i64_w, i32_w]
  rfl
  }
  refine pure_ (i := 22) (N := some 58) (v := ?_) (a' := ?_) #[true, true, true, true, true, true, true, true, true, true, true, true, true, true, true, true, true, true, true, true, true, true, true, false, false, false, false, false, false, false] rfl rfl (any_of HT_.out (by kernel_rfl)) (fun _ _ _ h => h) (Or.inl ⟨by rfl, ?_⟩) ?_ ?_
  rotate_left
  {
  intro w'
  go_simp
  with_reducible rfl
  }
  rotate_left
  {
  simp only [Act.put, List.setIfInBounds_toArray, List.set_cons_zero, List.set_cons_succ, i64_w, i32_w]
  rfl
  }
  refine pure_ (i := 23) (N := some 59) (v := ?_) (a' := ?_) #[true, true, true, true, true, true, true, true, true, true, true, true, true, true, true, true, true, true, true, true, true, true, true, true, false, false, false, false, false, false] rfl rfl (any_of HT_.out (by kernel_rfl)) (fun _ _ _ h => h) (Or.inl ⟨by rfl, ?_⟩) ?_ ?_
  rotate_left
  {
  intro w'
  go_simp
  with_reducible rfl
  }
  rotate_left
  {
  simp only [Act.put, List.setIfInBounds_toArray, List.set_cons_zero, List.set_cons_succ, i64_w, i32_w]
  rfl
  }
  refine pure_ (i := 25) (N := some 61) (v := ?_) (a' := ?_) #[true, true, true, true, true, true, true, true, true, true, true, true, true, true, true, true, true, true, true, true, true, true, true, true, false, true, false, false, false, false] rfl rfl (any_of HT_.out (by kernel_rfl)) (fun _ _ _ h => h) (Or.inl ⟨by rfl, ?_⟩) ?_ ?_
  rotate_left
  {
  intro w'
  go_simp
  with_reducible rfl
  }
  rotate_left
  {
  simp only [Act.put, List.setIfInBounds_toArray, List.set_cons_zero, List.set_cons_succ, i64_w, i32_w]
  rfl
  }
  exact norm_ (by first | (simp only [putAll, Act.put, List.setIfInBounds_toArray, List.set_cons_zero, List.set_cons_succ]; done) | (simp only [putAll, Act.put, List.setIfInBounds_toArray, List.set_cons_zero, List.set_cons_succ]; rfl)) (hJ1_3_5_6_11_13_16_17_18 (v181, v185) _ ⟨HO165.out, HO172.out, HO179.out, HO182.out, HO186.out, (by repeat (first | (with_reducible first | exact HB.out | apply below_alloc | apply pw_below_drewN | apply below_drew1) | exact HB.out))⟩)
  }
  }
  {
  skip
  rintro ⟨v181, v185⟩ w41 ⟨h0_, h1_, h2_, h3_, h4_, h5_⟩
  have n0_ : Aside0 (Kd.Q (Kd.int .u8) 5 w41 w.heap.size (fun k_ => some k_ ≠ (v171 : Value).ownBlock ∧ some k_ ≠ (v178 : Value).ownBlock ∧ some k_ ≠ (v181 : Value).ownBlock ∧ some k_ ≠ (v185 : Value).ownBlock) (.slice Ao21 y163.length co21) y163) := ⟨h0_⟩
  have n1_ : Aside0 (Kd.R (Kd.int .u8) 5 w41 w.heap.size (fun k_ => some k_ ≠ (.slice Ao21 y163.length co21 : Value).ownBlock ∧ some k_ ≠ (v178 : Value).ownBlock ∧ some k_ ≠ (v181 : Value).ownBlock ∧ some k_ ≠ (v185 : Value).ownBlock) v171 t170) := ⟨h1_⟩
  have n2_ : Aside0 (Kd.R (Kd.int .u8) 5 w41 w.heap.size (fun k_ => some k_ ≠ (.slice Ao21 y163.length co21 : Value).ownBlock ∧ some k_ ≠ (v171 : Value).ownBlock ∧ some k_ ≠ (v181 : Value).ownBlock ∧ some k_ ≠ (v185 : Value).ownBlock) v178 t177) := ⟨h2_⟩
  have n3_ : Aside0 (Kd.R (Kd.int .u8) 5 w41 w.heap.size (fun k_ => some k_ ≠ (.slice Ao21 y163.length co21 : Value).ownBlock ∧ some k_ ≠ (v171 : Value).ownBlock ∧ some k_ ≠ (v178 : Value).ownBlock ∧ some k_ ≠ (v185 : Value).ownBlock) v181 t180) := ⟨h3_⟩
  have n4_ : Aside0 (Kd.R (Kd.int .u8) 5 w41 w.heap.size (fun k_ => some k_ ≠ (.slice Ao21 y163.length co21 : Value).ownBlock ∧ some k_ ≠ (v171 : Value).ownBlock ∧ some k_ ≠ (v178 : Value).ownBlock ∧ some k_ ≠ (v181 : Value).ownBlock) v185 t184) := ⟨h4_⟩
  have n5_ : Aside0 (Below w.heap.size w w41) := ⟨h5_⟩
  clear HO165
  clear HO172
  clear HO179
  clear HR169
  clear HR176
  clear HB
  clear h0_ h1_ h2_ h3_ h4_ h5_
  have HO165 := n0_
  have HO172 := n1_
  have HO179 := n2_
  have HO182 := n3_
  have HO186 := n4_
  have HB := n5_
  clear n0_ n1_ n2_ n3_ n4_ n5_
  have hHeld := trivial
  refine norm_ (a' := ?_) ?_ ?_
  rotate_left
  {
  simp only [putAll, Act.put, List.setIfInBounds_toArray, List.set_cons_zero, List.set_cons_succ]
  rfl
  }
  refine one_ (i := 13) (N := some 49) #[true, true, true, true, true, true, true, true, true, true, true, true, true, true, true, true, true, true, true, false, false, false, false, false, false, false, false, false, false, false] rfl rfl (one_of HT_.out (by kernel_rfl)) (by decide) (fun K hK => ?_)
  have hcv42 := Kd.C_string (P := Try.prog) (A := A1) (c := c1) Try.underlying27 Try.underlying5 Try.underlying9 (Kd.C_below HR1.out HB.out); have hcv42N := fun m_ => Kd.C_string (P := Try.prog) (A := A1) (c := c1) Try.underlying27 Try.underlying5 Try.underlying9 (Kd.C_drewN (Kd.C_below HR1.out HB.out) m_)
  refine value_ (w1 := ?_) (v := ?_) (by rfl) rfl ?_ ?_
  rotate_left 2
  {
  go_simp
  constructor
  {
  rfl
  }
  {
  rfl
  }
  }
  clear hcv42
  refine hK.out _ _ trivial (fun hHeld => ?_)
  clear hK K
  refine norm_ (a' := ?_) ?_ ?_
  rotate_left
  {
  show Act.put _ (some 49) _ = _
  simp only [Act.put, List.setIfInBounds_toArray, List.set_cons_zero, List.set_cons_succ, i64_w, i32_w]
  rfl
  }
  refine pure_ (i := 19) (N := some 55) (v := ?_) (a' := ?_) #[true, true, true, true, true, true, true, true, true, true, true, true, true, true, true, true, true, true, true, true, false, false, false, false, false, false, false, false, false, false] rfl rfl (any_of HT_.out (by kernel_rfl)) (fun _ _ _ h => h) (Or.inl ⟨by rfl, ?_⟩) ?_ ?_
  rotate_left
  {
  intro w'
  go_simp
  with_reducible rfl
  }
  rotate_left
  {
  simp only [Act.put, List.setIfInBounds_toArray, List.set_cons_zero, List.set_cons_succ, i64_w, i32_w]
  rfl
  }
  refine pure_ (i := 20) (N := some 56) (v := ?_) (a' := ?_) #[true, true, true, true, true, true, true, true, true, true, true, true, true, true, true, true, true, true, true, true, true, false, false, false, false, false, false, false, false, false] rfl rfl (any_of HT_.out (by kernel_rfl)) (fun _ _ _ h => h) (Or.inl ⟨by rfl, ?_⟩) ?_ ?_
  rotate_left
  {
  intro w'
  go_simp
  with_reducible rfl
  }
  rotate_left
  {
  simp only [Act.put, List.setIfInBounds_toArray, List.set_cons_zero, List.set_cons_succ, i64_w, i32_w]
  rfl
  }
  refine pure_ (i := 21) (N := some 57) (v := ?_) (a' := ?_) #[true, true, true, true, true, true, true, true, true, true, true, true, true, true, true, true, true, true, true, true, true, true, false, false, false, false, false, false, false, false] rfl rfl (any_of HT_.out (by kernel_rfl)) (fun _ _ _ h => h) (Or.inl ⟨by rfl, ?_⟩) ?_ ?_
  rotate_left
  {
  intro w'
  go_simp
  with_reducible rfl
  }
  rotate_left
  {
  simp only [Act.put, List.setIfInBounds_toArray, List.set_cons_zero, List.set_cons_succ, i64_w, i32_w]
  rfl
  }
  refine pure_ (i := 22) (N := some 58) (v := ?_) (a' := ?_) #[true, true, true, true, true, true, true, true, true, true, true, true, true, true, true, true, true, true, true, true, true, true, true, false, false, false, false, false, false, false] rfl rfl (any_of HT_.out (by kernel_rfl)) (fun _ _ _ h => h) (Or.inl ⟨by rfl, ?_⟩) ?_ ?_
  rotate_left
  {
  intro w'
  go_simp
  with_reducible rfl
  }
  rotate_left
  {
  simp only [Act.put, List.setIfInBounds_toArray, List.set_cons_zero, List.set_cons_succ, i64_w, i32_w]
  rfl
  }
  refine pure_ (i := 23) (N := some 59) (v := ?_) (a' := ?_) #[true, true, true, true, true, true, true, true, true, true, true, true, true, true, true, true, true, true, true, true, true, true, true, true, false, false, false, false, false, false] rfl rfl (any_of HT_.out (by kernel_rfl)) (fun _ _ _ h => h) (Or.inl ⟨by rfl, ?_⟩) ?_ ?_
  rotate_left
  {
  intro w'
  go_simp
  with_reducible rfl
  }
  rotate_left
  {
  simp only [Act.put, List.setIfInBounds_toArray, List.set_cons_zero, List.set_cons_succ, i64_w, i32_w]
  rfl
  }
  refine pure_ (i := 25) (N := some 61) (v := ?_) (a' := ?_) #[true, true, true, true, true, true, true, true, true, true, true, true, true, true, true, true, true, true, true, true, true, true, true, true, false, true, false, false, false, false] rfl rfl (any_of HT_.out (by kernel_rfl)) (fun _ _ _ h => h) (Or.inl ⟨by rfl, ?_⟩) ?_ ?_
  rotate_left
  {
  intro w'
  go_simp
  with_reducible rfl
  }
  rotate_left
  {
  simp only [Act.put, List.setIfInBounds_toArray, List.set_cons_zero, List.set_cons_succ, i64_w, i32_w]
  rfl
  }
  exact norm_ (by first | (simp only [putAll, Act.put, List.setIfInBounds_toArray, List.set_cons_zero, List.set_cons_succ]; done) | (simp only [putAll, Act.put, List.setIfInBounds_toArray, List.set_cons_zero, List.set_cons_succ]; rfl)) (hJ1_3_5_6_11_13_16_17_18 (v181, v185) _ ⟨HO165.out, HO172.out, HO179.out, HO182.out, HO186.out, (by repeat (first | (with_reducible first | exact HB.out | apply below_alloc | apply pw_below_drewN | apply below_drew1) | exact HB.out))⟩)
  }
  }
  {
  skip
  rintro ⟨v181, v185⟩ w41 ⟨h0_, h1_, h2_, h3_, h4_, h5_⟩
  have n0_ : Aside0 (Kd.Q (Kd.int .u8) 5 w41 w.heap.size (fun k_ => some k_ ≠ (v171 : Value).ownBlock ∧ some k_ ≠ (v178 : Value).ownBlock ∧ some k_ ≠ (v181 : Value).ownBlock ∧ some k_ ≠ (v185 : Value).ownBlock) (.slice Ao21 y163.length co21) y163) := ⟨h0_⟩
  have n1_ : Aside0 (Kd.R (Kd.int .u8) 5 w41 w.heap.size (fun k_ => some k_ ≠ (.slice Ao21 y163.length co21 : Value).ownBlock ∧ some k_ ≠ (v178 : Value).ownBlock ∧ some k_ ≠ (v181 : Value).ownBlock ∧ some k_ ≠ (v185 : Value).ownBlock) v171 t170) := ⟨h1_⟩
  have n2_ : Aside0 (Kd.R (Kd.int .u8) 5 w41 w.heap.size (fun k_ => some k_ ≠ (.slice Ao21 y163.length co21 : Value).ownBlock ∧ some k_ ≠ (v171 : Value).ownBlock ∧ some k_ ≠ (v181 : Value).ownBlock ∧ some k_ ≠ (v185 : Value).ownBlock) v178 t177) := ⟨h2_⟩
  have n3_ : Aside0 (Kd.R (Kd.int .u8) 5 w41 w.heap.size (fun k_ => some k_ ≠ (.slice Ao21 y163.length co21 : Value).ownBlock ∧ some k_ ≠ (v171 : Value).ownBlock ∧ some k_ ≠ (v178 : Value).ownBlock ∧ some k_ ≠ (v185 : Value).ownBlock) v181 t180) := ⟨h3_⟩
  have n4_ : Aside0 (Kd.R (Kd.int .u8) 5 w41 w.heap.size (fun k_ => some k_ ≠ (.slice Ao21 y163.length co21 : Value).ownBlock ∧ some k_ ≠ (v171 : Value).ownBlock ∧ some k_ ≠ (v178 : Value).ownBlock ∧ some k_ ≠ (v181 : Value).ownBlock) v185 t184) := ⟨h4_⟩
  have n5_ : Aside0 (Below w.heap.size w w41) := ⟨h5_⟩
  clear HO165
  clear HO172
  clear HO179
  clear HR169
  clear HR176
  clear HB
  clear h0_ h1_ h2_ h3_ h4_ h5_
  have HO165 := n0_
  have HO172 := n1_
  have HO179 := n2_
  have HO182 := n3_
  have HO186 := n4_
  have HB := n5_
  clear n0_ n1_ n2_ n3_ n4_ n5_
  have hHeld := trivial
  refine norm_ (a' := ?_) ?_ ?_
  rotate_left
  {
  simp only [putAll, Act.put, List.setIfInBounds_toArray, List.set_cons_zero, List.set_cons_succ]
  rfl
  }
  refine one_ (i := 18) (N := some 54) #[true, true, true, true, true, true, true, true, true, true, true, true, true, true, true, true, true, true, true, false, false, false, false, false, false, false, false, false, false, false] rfl rfl (one_of HT_.out (by kernel_rfl)) (by decide) (fun K hK => ?_)
  have hcv42 := own_string (P := Try.prog) Try.underlying27 Try.underlying5 Try.underlying9 (Kd.own_of_R HO186.out)
  refine value_ (w1 := ?_) (v := ?_) (by rfl) rfl ?_ ?_
  rotate_left 2
  {
  go_simp
  constructor
  {
  rfl
  }
  {
  rfl
  }
  }
  clear hcv42
  refine hK.out _ _ trivial (fun hHeld => ?_)
  clear hK K
  refine norm_ (a' := ?_) ?_ ?_
  rotate_left
  {
  show Act.put _ (some 54) _ = _
  simp only [Act.put, List.setIfInBounds_toArray, List.set_cons_zero, List.set_cons_succ, i64_w, i32_w]
  rfl
  }
  refine pure_ (i := 19) (N := some 55) (v := ?_) (a' := ?_) #[true, true, true, true, true, true, true, true, true, true, true, true, true, true, true, true, true, true, true, true, false, false, false, false, false, false, false, false, false, false] rfl rfl (any_of HT_.out (by kernel_rfl)) (fun _ _ _ h => h) (Or.inl ⟨by rfl, ?_⟩) ?_ ?_
  rotate_left
  {
  intro w'
  go_simp
  with_reducible rfl
  }
  rotate_left
  {
  simp only [Act.put, List.setIfInBounds_toArray, List.set_cons_zero, List.set_cons_succ, i64_w, i32_w]
  rfl
  }
  refine pure_ (i := 20) (N := some 56) (v := ?_) (a' := ?_) #[true, true, true, true, true, true, true, true, true, true, true, true, true, true, true, true, true, true, true, true, true, false, false, false, false, false, false, false, false, false] rfl rfl (any_of HT_.out (by kernel_rfl)) (fun _ _ _ h => h) (Or.inl ⟨by rfl, ?_⟩) ?_ ?_
  rotate_left
  {
  intro w'
  go_simp
  with_reducible rfl
  }
  rotate_left
  {
  simp only [Act.put, List.setIfInBounds_toArray, List.set_cons_zero, List.set_cons_succ, i64_w, i32_w]
  rfl
  }
  refine pure_ (i := 21) (N := some 57) (v := ?_) (a' := ?_) #[true, true, true, true, true, true, true, true, true, true, true, true, true, true, true, true, true, true, true, true, true, true, false, false, false, false, false, false, false, false] rfl rfl (any_of HT_.out (by kernel_rfl)) (fun _ _ _ h => h) (Or.inl ⟨by rfl, ?_⟩) ?_ ?_
  rotate_left
  {
  intro w'
  go_simp
  with_reducible rfl
  }
  rotate_left
  {
  simp only [Act.put, List.setIfInBounds_toArray, List.set_cons_zero, List.set_cons_succ, i64_w, i32_w]
  rfl
  }
  refine pure_ (i := 22) (N := some 58) (v := ?_) (a' := ?_) #[true, true, true, true, true, true, true, true, true, true, true, true, true, true, true, true, true, true, true, true, true, true, true, false, false, false, false, false, false, false] rfl rfl (any_of HT_.out (by kernel_rfl)) (fun _ _ _ h => h) (Or.inl ⟨by rfl, ?_⟩) ?_ ?_
  rotate_left
  {
  intro w'
  go_simp
  with_reducible rfl
  }
  rotate_left
  {
  simp only [Act.put, List.setIfInBounds_toArray, List.set_cons_zero, List.set_cons_succ, i64_w, i32_w]
  rfl
  }
  refine pure_ (i := 23) (N := some 59) (v := ?_) (a' := ?_) #[true, true, true, true, true, true, true, true, true, true, true, true, true, true, true, true, true, true, true, true, true, true, true, true, false, false, false, false, false, false] rfl rfl (any_of HT_.out (by kernel_rfl)) (fun _ _ _ h => h) (Or.inl ⟨by rfl, ?_⟩) ?_ ?_
  rotate_left
  {
  intro w'
  go_simp
  with_reducible rfl
  }
  rotate_left
  {
  simp only [Act.put, List.setIfInBounds_toArray, List.set_cons_zero, List.set_cons_succ, i64_w, i32_w]
  rfl
  }
  refine pure_ (i := 25) (N := some 61) (v := ?_) (a' := ?_) #[true, true, true, true, true, true, true, true, true, true, true, true, true, true, true, true, true, true, true, true, true, true, true, true, false, true, false, false, false, false] rfl rfl (any_of HT_.out (by kernel_rfl)) (fun _ _ _ h => h) (Or.inl ⟨by rfl, ?_⟩) ?_ ?_
  rotate_left
  {
  intro w'
  go_simp
  with_reducible rfl
  }
  rotate_left
  {
  simp only [Act.put, List.setIfInBounds_toArray, List.set_cons_zero, List.set_cons_succ, i64_w, i32_w]
  rfl
  }
  exact norm_ (by first | (simp only [putAll, Act.put, List.setIfInBounds_toArray, List.set_cons_zero, List.set_cons_succ]; done) | (simp only [putAll, Act.put, List.setIfInBounds_toArray, List.set_cons_zero, List.set_cons_succ]; rfl)) (hJ1_3_5_6_11_13_16_17_18 (v181, v185) _ ⟨HO165.out, HO172.out, HO179.out, HO182.out, HO186.out, (by repeat (first | (with_reducible first | exact HB.out | apply below_alloc | apply pw_below_drewN | apply below_drew1) | exact HB.out))⟩)
  }
  }
  {
  skip
  rintro ⟨v181, v185⟩ w42 ⟨h0_, h1_, h2_, h3_, h4_, h5_⟩
  have n0_ : Aside0 (Kd.Q (Kd.int .u8) 5 w42 w.heap.size (fun k_ => some k_ ≠ (v171 : Value).ownBlock ∧ some k_ ≠ (v178 : Value).ownBlock ∧ some k_ ≠ (v181 : Value).ownBlock ∧ some k_ ≠ (v185 : Value).ownBlock) (.slice Ao21 y163.length co21) y163) := ⟨h0_⟩
  have n1_ : Aside0 (Kd.R (Kd.int .u8) 5 w42 w.heap.size (fun k_ => some k_ ≠ (.slice Ao21 y163.length co21 : Value).ownBlock ∧ some k_ ≠ (v178 : Value).ownBlock ∧ some k_ ≠ (v181 : Value).ownBlock ∧ some k_ ≠ (v185 : Value).ownBlock) v171 t170) := ⟨h1_⟩
  have n2_ : Aside0 (Kd.R (Kd.int .u8) 5 w42 w.heap.size (fun k_ => some k_ ≠ (.slice Ao21 y163.length co21 : Value).ownBlock ∧ some k_ ≠ (v171 : Value).ownBlock ∧ some k_ ≠ (v181 : Value).ownBlock ∧ some k_ ≠ (v185 : Value).ownBlock) v178 t177) := ⟨h2_⟩
  have n3_ : Aside0 (Kd.R (Kd.int .u8) 5 w42 w.heap.size (fun k_ => some k_ ≠ (.slice Ao21 y163.length co21 : Value).ownBlock ∧ some k_ ≠ (v171 : Value).ownBlock ∧ some k_ ≠ (v178 : Value).ownBlock ∧ some k_ ≠ (v185 : Value).ownBlock) v181 t180) := ⟨h3_⟩
  have n4_ : Aside0 (Kd.R (Kd.int .u8) 5 w42 w.heap.size (fun k_ => some k_ ≠ (.slice Ao21 y163.length co21 : Value).ownBlock ∧ some k_ ≠ (v171 : Value).ownBlock ∧ some k_ ≠ (v178 : Value).ownBlock ∧ some k_ ≠ (v181 : Value).ownBlock) v185 t184) := ⟨h4_⟩
  have n5_ : Aside0 (Below w.heap.size w w42) := ⟨h5_⟩
  clear HO165
  clear HO172
  clear HO179
  clear HR169
  clear HR176
  clear HB
  clear h0_ h1_ h2_ h3_ h4_ h5_
  have HO165 := n0_
  have HO172 := n1_
  have HO179 := n2_
  have HO182 := n3_
  have HO186 := n4_
  have HB := n5_
  clear n0_ n1_ n2_ n3_ n4_ n5_
  have hHeld := trivial
  refine norm_ (a' := ?_) ?_ ?_
  rotate_left
  {
  simp only [putAll, Act.put, List.setIfInBounds_toArray, List.set_cons_zero, List.set_cons_succ]
  rfl
  }
  refine two_ (i := 24) (j := 26) (Ni := some 60) (Nj := some 62) #[true, true, true, true, true, true, true, true, true, true, true, true, true, true, true, true, true, true, true, true, true, true, true, true, true, true, false, false, false, false] #[true, true, true, true, true, true, true, true, true, true, true, true, true, true, true, true, true, true, true, true, true, true, true, true, false, true, true, false, false, false] rfl rfl rfl rfl (two_of HT_.out (by kernel_rfl)) (by decide) (by decide) (fun K hK => ?_) (fun K hK => ?_)
  {
  skip
  have hcv43 := Kd.Q_string (P := Try.prog) Try.underlying27 Try.underlying5 Try.underlying9 HO165.out
  refine value_ (w1 := ?_) (v := ?_) (by rfl) rfl ?_ ?_
  rotate_left 2
  {
  go_simp
  constructor
  {
  rfl
  }
  {
  rfl
  }
  }
  clear hcv43
  refine hK.out _ _ trivial (fun hHeld => ?_)
  clear hK K
  refine norm_ (a' := ?_) ?_ ?_
  rotate_left
  {
  show Act.put _ (some 60) _ = _
  simp only [Act.put, List.setIfInBounds_toArray, List.set_cons_zero, List.set_cons_succ, i64_w, i32_w]
  rfl
  }
  exact norm_ (by first | (simp only [putAll, Act.put, List.setIfInBounds_toArray, List.set_cons_zero, List.set_cons_succ]; done) | (simp only [putAll, Act.put, List.setIfInBounds_toArray, List.set_cons_zero, List.set_cons_succ]; rfl)) (hJ1_3_5_6_11_13_16_17_18_24 (v181, v185) _ ⟨HO165.out, HO172.out, HO179.out, HO182.out, HO186.out, (by repeat (first | (with_reducible first | exact HB.out | apply below_alloc | apply pw_below_drewN | apply below_drew1) | exact HB.out))⟩)
  }
  {
  skip
  have hcv43 := Kd.C_string (P := Try.prog) (A := A1) (c := c1) Try.underlying27 Try.underlying5 Try.underlying9 (Kd.C_below HR1.out HB.out); have hcv43N := fun m_ => Kd.C_string (P := Try.prog) (A := A1) (c := c1) Try.underlying27 Try.underlying5 Try.underlying9 (Kd.C_drewN (Kd.C_below HR1.out HB.out) m_)
  refine value_ (w1 := ?_) (v := ?_) (by rfl) rfl ?_ ?_
  rotate_left 2
  {
  go_simp
  constructor
  {
  rfl
  }
  {
  rfl
  }
  }
  clear hcv43
  refine hK.out _ _ trivial (fun hHeld => ?_)
  clear hK K
  refine norm_ (a' := ?_) ?_ ?_
  rotate_left
  {
  show Act.put _ (some 62) _ = _
  simp only [Act.put, List.setIfInBounds_toArray, List.set_cons_zero, List.set_cons_succ, i64_w, i32_w]
  rfl
  }
  refine pure_ (i := 27) (N := some 63) (v := ?_) (a' := ?_) #[true, true, true, true, true, true, true, true, true, true, true, true, true, true, true, true, true, true, true, true, true, true, true, true, false, true, true, true, false, false] rfl rfl (any_of HT_.out (by kernel_rfl)) (fun _ _ _ h => h) (Or.inl ⟨by rfl, ?_⟩) ?_ ?_
  rotate_left
  {
  intro w'
  go_simp
  with_reducible rfl
  }
  rotate_left
  {
  simp only [Act.put, List.setIfInBounds_toArray, List.set_cons_zero, List.set_cons_succ, i64_w, i32_w]
  rfl
  }
  exact norm_ (by first | (simp only [putAll, Act.put, List.setIfInBounds_toArray, List.set_cons_zero, List.set_cons_succ]; done) | (simp only [putAll, Act.put, List.setIfInBounds_toArray, List.set_cons_zero, List.set_cons_succ]; rfl)) (hJ1_3_5_6_11_13_16_17_18_26 (v181, v185) _ ⟨HO165.out, HO172.out, HO179.out, HO182.out, HO186.out, (by repeat (first | (with_reducible first | exact HB.out | apply below_alloc | apply pw_below_drewN | apply below_drew1) | exact HB.out))⟩)
  }
  }
  }
  {
  skip
  rintro ⟨v181, v185⟩ w43 ⟨h0_, h1_, h2_, h3_, h4_, h5_⟩
  have n0_ : Aside0 (Kd.Q (Kd.int .u8) 5 w43 w.heap.size (fun k_ => some k_ ≠ (v171 : Value).ownBlock ∧ some k_ ≠ (v178 : Value).ownBlock ∧ some k_ ≠ (v181 : Value).ownBlock ∧ some k_ ≠ (v185 : Value).ownBlock) (.slice Ao21 y163.length co21) y163) := ⟨h0_⟩
  have n1_ : Aside0 (Kd.R (Kd.int .u8) 5 w43 w.heap.size (fun k_ => some k_ ≠ (.slice Ao21 y163.length co21 : Value).ownBlock ∧ some k_ ≠ (v178 : Value).ownBlock ∧ some k_ ≠ (v181 : Value).ownBlock ∧ some k_ ≠ (v185 : Value).ownBlock) v171 t170) := ⟨h1_⟩
  have n2_ : Aside0 (Kd.R (Kd.int .u8) 5 w43 w.heap.size (fun k_ => some k_ ≠ (.slice Ao21 y163.length co21 : Value).ownBlock ∧ some k_ ≠ (v171 : Value).ownBlock ∧ some k_ ≠ (v181 : Value).ownBlock ∧ some k_ ≠ (v185 : Value).ownBlock) v178 t177) := ⟨h2_⟩
  have n3_ : Aside0 (Kd.R (Kd.int .u8) 5 w43 w.heap.size (fun k_ => some k_ ≠ (.slice Ao21 y163.length co21 : Value).ownBlock ∧ some k_ ≠ (v171 : Value).ownBlock ∧ some k_ ≠ (v178 : Value).ownBlock ∧ some k_ ≠ (v185 : Value).ownBlock) v181 t180) := ⟨h3_⟩
  have n4_ : Aside0 (Kd.R (Kd.int .u8) 5 w43 w.heap.size (fun k_ => some k_ ≠ (.slice Ao21 y163.length co21 : Value).ownBlock ∧ some k_ ≠ (v171 : Value).ownBlock ∧ some k_ ≠ (v178 : Value).ownBlock ∧ some k_ ≠ (v181 : Value).ownBlock) v185 t184) := ⟨h4_⟩
  have n5_ : Aside0 (Below w.heap.size w w43) := ⟨h5_⟩
  clear HO165
  clear HO172
  clear HO179
  clear HR169
  clear HR176
  clear HB
  clear h0_ h1_ h2_ h3_ h4_ h5_
  have HO165 := n0_
  have HO172 := n1_
  have HO179 := n2_
  have HO182 := n3_
  have HO186 := n4_
  have HB := n5_
  clear n0_ n1_ n2_ n3_ n4_ n5_
  have hHeld := trivial
  refine norm_ (a' := ?_) ?_ ?_
  rotate_left
  {
  simp only [putAll, Act.put, List.setIfInBounds_toArray, List.set_cons_zero, List.set_cons_succ]
  rfl
  }
  refine one_ (i := 24) (N := some 60) #[true, true, true, true, true, true, true, true, true, true, true, true, true, true, true, true, true, true, true, true, true, true, true, true, true, true, true, true, false, false] rfl rfl (one_of HT_.out (by kernel_rfl)) (by decide) (fun K hK => ?_)
  have hcv44 := Kd.Q_string (P := Try.prog) Try.underlying27 Try.underlying5 Try.underlying9 HO165.out
  refine value_ (w1 := ?_) (v := ?_) (by rfl) rfl ?_ ?_
  rotate_left 2
  {
  go_simp
  constructor
  {
  rfl
  }
  {
  rfl
  }
  }
  clear hcv44
  refine hK.out _ _ trivial (fun hHeld => ?_)
  clear hK K
  refine norm_ (a' := ?_) ?_ ?_
  rotate_left
  {
  show Act.put _ (some 60) _ = _
  simp only [Act.put, List.setIfInBounds_toArray, List.set_cons_zero, List.set_cons_succ, i64_w, i32_w]
  rfl
  }
  exact norm_ (by first | (simp only [putAll, Act.put, List.setIfInBounds_toArray, List.set_cons_zero, List.set_cons_succ]; done) | (simp only [putAll, Act.put, List.setIfInBounds_toArray, List.set_cons_zero, List.set_cons_succ]; rfl)) (hJ1_3_5_6_11_13_16_17_18_24_26 (v181, v185) _ ⟨HO165.out, HO172.out, HO179.out, HO182.out, HO186.out, (by repeat (first | (with_reducible first | exact HB.out | apply below_alloc | apply pw_below_drewN | apply below_drew1) | exact HB.out))⟩)
  }
  }
  {
  skip
  rintro ⟨v181, v185⟩ w43 ⟨h0_, h1_, h2_, h3_, h4_, h5_⟩
  have n0_ : Aside0 (Kd.Q (Kd.int .u8) 5 w43 w.heap.size (fun k_ => some k_ ≠ (v171 : Value).ownBlock ∧ some k_ ≠ (v178 : Value).ownBlock ∧ some k_ ≠ (v181 : Value).ownBlock ∧ some k_ ≠ (v185 : Value).ownBlock) (.slice Ao21 y163.length co21) y163) := ⟨h0_⟩
  have n1_ : Aside0 (Kd.R (Kd.int .u8) 5 w43 w.heap.size (fun k_ => some k_ ≠ (.slice Ao21 y163.length co21 : Value).ownBlock ∧ some k_ ≠ (v178 : Value).ownBlock ∧ some k_ ≠ (v181 : Value).ownBlock ∧ some k_ ≠ (v185 : Value).ownBlock) v171 t170) := ⟨h1_⟩
  have n2_ : Aside0 (Kd.R (Kd.int .u8) 5 w43 w.heap.size (fun k_ => some k_ ≠ (.slice Ao21 y163.length co21 : Value).ownBlock ∧ some k_ ≠ (v171 : Value).ownBlock ∧ some k_ ≠ (v181 : Value).ownBlock ∧ some k_ ≠ (v185 : Value).ownBlock) v178 t177) := ⟨h2_⟩
  have n3_ : Aside0 (Kd.R (Kd.int .u8) 5 w43 w.heap.size (fun k_ => some k_ ≠ (.slice Ao21 y163.length co21 : Value).ownBlock ∧ some k_ ≠ (v171 : Value).ownBlock ∧ some k_ ≠ (v178 : Value).ownBlock ∧ some k_ ≠ (v185 : Value).ownBlock) v181 t180) := ⟨h3_⟩
  have n4_ : Aside0 (Kd.R (Kd.int .u8) 5 w43 w.heap.size (fun k_ => some k_ ≠ (.slice Ao21 y163.length co21 : Value).ownBlock ∧ some k_ ≠ (v171 : Value).ownBlock ∧ some k_ ≠ (v178 : Value).ownBlock ∧ some k_ ≠ (v181 : Value).ownBlock) v185 t184) := ⟨h4_⟩
  have n5_ : Aside0 (Below w.heap.size w w43) := ⟨h5_⟩
  clear HO165
  clear HO172
  clear HO179
  clear HR169
  clear HR176
  clear HB
  clear h0_ h1_ h2_ h3_ h4_ h5_
  have HO165 := n0_
  have HO172 := n1_
  have HO179 := n2_
  have HO182 := n3_
  have HO186 := n4_
  have HB := n5_
  clear n0_ n1_ n2_ n3_ n4_ n5_
  have hHeld := trivial
  refine norm_ (a' := ?_) ?_ ?_
  rotate_left
  {
  simp only [putAll, Act.put, List.setIfInBounds_toArray, List.set_cons_zero, List.set_cons_succ]
  rfl
  }
  refine one_ (i := 26) (N := some 62) #[true, true, true, true, true, true, true, true, true, true, true, true, true, true, true, true, true, true, true, true, true, true, true, true, true, true, true, false, false, false] rfl rfl (one_of HT_.out (by kernel_rfl)) (by decide) (fun K hK => ?_)
  have hcv44 := Kd.C_string (P := Try.prog) (A := A1) (c := c1) Try.underlying27 Try.underlying5 Try.underlying9 (Kd.C_below HR1.out HB.out); have hcv44N := fun m_ => Kd.C_string (P := Try.prog) (A := A1) (c := c1) Try.underlying27 Try.underlying5 Try.underlying9 (Kd.C_drewN (Kd.C_below HR1.out HB.out) m_)
  refine value_ (w1 := ?_) (v := ?_) (by rfl) rfl ?_ ?_
  rotate_left 2
  {
  go_simp
  constructor
  {
  rfl
  }
  {
  rfl
  }
  }
  clear hcv44
  refine hK.out _ _ trivial (fun hHeld => ?_)
  clear hK K
  refine norm_ (a' := ?_) ?_ ?_
  rotate_left
  {
  show Act.put _ (some 62) _ = _
  simp only [Act.put, List.setIfInBounds_toArray, List.set_cons_zero, List.set_cons_succ, i64_w, i32_w]
  rfl
  }
  refine pure_ (i := 27) (N := some 63) (v := ?_) (a' := ?_) #[true, true, true, true, true, true, true, true, true, true, true, true, true, true, true, true, true, true, true, true, true, true, true, true, true, true, true, true, false, false] rfl rfl (any_of HT_.out (by kernel_rfl)) (fun _ _ _ h => h) (Or.inl ⟨by rfl, ?_⟩) ?_ ?_
  rotate_left
  {
  intro w'
  go_simp
  with_reducible rfl
  }
  rotate_left
  {
  simp only [Act.put, List.setIfInBounds_toArray, List.set_cons_zero, List.set_cons_succ, i64_w, i32_w]
  rfl
  }
  exact norm_ (by first | (simp only [putAll, Act.put, List.setIfInBounds_toArray, List.set_cons_zero, List.set_cons_succ]; done) | (simp only [putAll, Act.put, List.setIfInBounds_toArray, List.set_cons_zero, List.set_cons_succ]; rfl)) (hJ1_3_5_6_11_13_16_17_18_24_26 (v181, v185) _ ⟨HO165.out, HO172.out, HO179.out, HO182.out, HO186.out, (by repeat (first | (with_reducible first | exact HB.out | apply below_alloc | apply pw_below_drewN | apply below_drew1) | exact HB.out))⟩)
  }
  }
  rintro ⟨v181, v185⟩ w44 ⟨h0_, h1_, h2_, h3_, h4_, h5_⟩
  have n0_ : Aside0 (Kd.Q (Kd.int .u8) 5 w44 w.heap.size (fun k_ => some k_ ≠ (v171 : Value).ownBlock ∧ some k_ ≠ (v178 : Value).ownBlock ∧ some k_ ≠ (v181 : Value).ownBlock ∧ some k_ ≠ (v185 : Value).ownBlock) (.slice Ao21 y163.length co21) y163) := ⟨h0_⟩
  have n1_ : Aside0 (Kd.R (Kd.int .u8) 5 w44 w.heap.size (fun k_ => some k_ ≠ (.slice Ao21 y163.length co21 : Value).ownBlock ∧ some k_ ≠ (v178 : Value).ownBlock ∧ some k_ ≠ (v181 : Value).ownBlock ∧ some k_ ≠ (v185 : Value).ownBlock) v171 t170) := ⟨h1_⟩
  have n2_ : Aside0 (Kd.R (Kd.int .u8) 5 w44 w.heap.size (fun k_ => some k_ ≠ (.slice Ao21 y163.length co21 : Value).ownBlock ∧ some k_ ≠ (v171 : Value).ownBlock ∧ some k_ ≠ (v181 : Value).ownBlock ∧ some k_ ≠ (v185 : Value).ownBlock) v178 t177) := ⟨h2_⟩
  have n3_ : Aside0 (Kd.R (Kd.int .u8) 5 w44 w.heap.size (fun k_ => some k_ ≠ (.slice Ao21 y163.length co21 : Value).ownBlock ∧ some k_ ≠ (v171 : Value).ownBlock ∧ some k_ ≠ (v178 : Value).ownBlock ∧ some k_ ≠ (v185 : Value).ownBlock) v181 t180) := ⟨h3_⟩
  have n4_ : Aside0 (Kd.R (Kd.int .u8) 5 w44 w.heap.size (fun k_ => some k_ ≠ (.slice Ao21 y163.length co21 : Value).ownBlock ∧ some k_ ≠ (v171 : Value).ownBlock ∧ some k_ ≠ (v178 : Value).ownBlock ∧ some k_ ≠ (v181 : Value).ownBlock) v185 t184) := ⟨h4_⟩
  have n5_ : Aside0 (Below w.heap.size w w44) := ⟨h5_⟩
  clear HO165
  clear HO172
  clear HO179
  clear HR169
  clear HR176
  clear HB
  clear h0_ h1_ h2_ h3_ h4_ h5_
  have HO165 := n0_
  have HO172 := n1_
  have HO179 := n2_
  have HO182 := n3_
  have HO186 := n4_
  have HB := n5_
  clear n0_ n1_ n2_ n3_ n4_ n5_
  have hHeld := trivial
  refine norm_ (a' := ?_) ?_ ?_
  rotate_left
  {
  simp only [putAll, Act.put, List.setIfInBounds_toArray, List.set_cons_zero, List.set_cons_succ]
  rfl
  }
  refine pure_ (i := 28) (N := some 64) (v := ?_) (a' := ?_) #[true, true, true, true, true, true, true, true, true, true, true, true, true, true, true, true, true, true, true, true, true, true, true, true, true, true, true, true, true, false] rfl rfl (any_of HT_.out (by kernel_rfl)) (fun _ _ _ h => h) (Or.inl ⟨by rfl, ?_⟩) ?_ ?_
  rotate_left
  {
  intro w'
  go_simp
  with_reducible rfl
  }
  rotate_left
  {
  simp only [Act.put, List.setIfInBounds_toArray, List.set_cons_zero, List.set_cons_succ, i64_w, i32_w]
  rfl
  }
  refine pure_ (i := 29) (N := some 65) (v := ?_) (a' := ?_) #[true, true, true, true, true, true, true, true, true, true, true, true, true, true, true, true, true, true, true, true, true, true, true, true, true, true, true, true, true, true] rfl rfl (any_of HT_.out (by kernel_rfl)) (fun _ _ _ h => h) (Or.inl ⟨by rfl, ?_⟩) ?_ ?_
  rotate_left
  {
  intro w'
  go_simp
  with_reducible rfl
  }
  rotate_left
  {
  simp only [Act.put, List.setIfInBounds_toArray, List.set_cons_zero, List.set_cons_succ, i64_w, i32_w]
  rfl
  }
  refine done_ (done_of HT_.out (by kernel_rfl)) ?_
  try go_wp2
  go_meet
  case rel => exact ⟨_, (((strOfNums y163).toList != ((strOfNums l1) ++ (⟨#[9]⟩ : ByteArray)).toList)), (by first | rfl | (simp; done) | (simp [*]; done)), H', ⟨by first | omega | exact Nat.le_refl _⟩, ⟨by (with_reducible repeat (first | apply Kd.R_alloc | apply Kd.R_drewN | apply Kd.R_drew)); exact Kd.R_mono HO172.out (fun _ hk => hk.2.1)⟩, ⟨by (with_reducible repeat (first | apply Kd.R_alloc | apply Kd.R_drewN | apply Kd.R_drew)); exact Kd.R_mono HO179.out (fun _ hk => hk.2.1)⟩, ⟨by repeat (first | (with_reducible first | exact HB.out | apply below_alloc | apply pw_below_drewN | apply below_drew1) | exact HB.out)⟩⟩
  }
  {
  rw [if_neg c32] at H
  exact absurd H (by simp)
  }
  }
  {
  rw [if_neg c31] at H
  exact absurd (ferrulelaw4_VintPuts.jf_ _ H) (by rw [Hr]; decide)
  }
  }
  {
  rw [if_neg c30] at H
  exact absurd H (by simp)
  }
  }
  {
  rw [if_neg c27] at H
  exact absurd (ferrulelaw4_VintPuts.jf_ _ H) (by rw [Hr]; decide)
  }
  }
  {
  rw [if_neg c26] at H
  exact absurd H (by simp)
  }
 case rest =>
  clear HC14
  try clear c1
  try clear c2
  try clear p2
  try clear hcv5
  try clear hcv6
  try clear c12
  try clear c26
  try clear hcv58
  try clear hcv59
  try clear hcv60
  obtain ⟨kq, x65_13, rfl, HA, HJ13, HO_8, HO_9, HB⟩ := hcut
  cases kq with
  | zero => exact absurd HA.out (by simp [ferrulelaw4_VintPuts.j0])
  | succ kj13 =>
    have H := HA.out
    clear HA
    simp only [ferrulelaw4_VintPuts.j0] at H
    by_cases c61 : x65_13 = true
    · subst c61
      have H1 : (some false) = some r := by rw [if_pos rfl] at H; exact H
      exact absurd ((Option.some.inj H1).trans Hr) (by decide)
    · replace c61 := Bool.eq_false_iff.mpr c61
      subst c61
      have H1 : ((some (([] : List Int) : List Int)).bind fun y187 => (if 0 ≤ (l1.length : Int) then (if (l1.length : Int) ≤ (t170.length : Int) then ((some (t170.drop ((l1.length : Int) : Int).toNat : List Int)).bind fun y190 => (if y187.length + y190.length < 140737488355328 then ((some (y187 ++ y190 : List Int)).bind fun y194 => (if y194.length + l2.length < 140737488355328 then ((vint_Get.f kj13 (y194 ++ l2)).bind fun bt200 => ((some (([] : List Int) : List Int)).bind fun y203 => (if (l1.length : Int) ≤ (t177.length : Int) then ((some (t177.drop ((l1.length : Int) : Int).toNat : List Int)).bind fun y206 => (if y203.length + y206.length < 140737488355328 then ((some (y203 ++ y206 : List Int)).bind fun y210 => (if y210.length + l2.length < 140737488355328 then ((vint_GetInt.f kj13 (y210 ++ l2)).bind fun bt216 => (if bt200.2.2 = 0 then (if bt216.2.2 = 0 then (if bt200.1 = a0 then (if bt216.1 = (wrap64 (a0)) then (if bt200.2.1 = (wrap64 ((t170.length : Int) - (l1.length : Int))) then (if bt216.2.1 = (wrap64 ((t177.length : Int) - (l1.length : Int))) then ((vint_Len.f kj13 a0).bind fun t219 => (some (t219 == bt200.2.1))) else (some false)) else (some false)) else (some false)) else (some false)) else (some false)) else (some false))) else (none))) else (none))) else (none)))) else (none))) else (none))) else (none)) else (none))) = some r := by rw [if_neg (show ¬ (false = true) by decide)] at H; exact H
      clear H
      have H := H1
      clear H1
      obtain ⟨y187, hy187⟩ : ∃ y_ : List Int, y_ = (([] : List Int)) := ⟨_, rfl⟩
      replace H : (if 0 ≤ (l1.length : Int) then (if (l1.length : Int) ≤ (t170.length : Int) then ((some (t170.drop ((l1.length : Int) : Int).toNat : List Int)).bind fun y190 => (if y187.length + y190.length < 140737488355328 then ((some (y187 ++ y190 : List Int)).bind fun y194 => (if y194.length + l2.length < 140737488355328 then ((vint_Get.f kj13 (y194 ++ l2)).bind fun bt200 => ((some (([] : List Int) : List Int)).bind fun y203 => (if (l1.length : Int) ≤ (t177.length : Int) then ((some (t177.drop ((l1.length : Int) : Int).toNat : List Int)).bind fun y206 => (if y203.length + y206.length < 140737488355328 then ((some (y203 ++ y206 : List Int)).bind fun y210 => (if y210.length + l2.length < 140737488355328 then ((vint_GetInt.f kj13 (y210 ++ l2)).bind fun bt216 => (if bt200.2.2 = 0 then (if bt216.2.2 = 0 then (if bt200.1 = a0 then (if bt216.1 = (wrap64 (a0)) then (if bt200.2.1 = (wrap64 ((t170.length : Int) - (l1.length : Int))) then (if bt216.2.1 = (wrap64 ((t177.length : Int) - (l1.length : Int))) then ((vint_Len.f kj13 a0).bind fun t219 => (some (t219 == bt200.2.1))) else (some false)) else (some false)) else (some false)) else (some false)) else (some false)) else (some false))) else (none))) else (none))) else (none)))) else (none))) else (none))) else (none)) else (none)) = some r := by first | (rw [hy187]; with_reducible exact H) | (have H2_ := (Option.bind_some _ _).symm.trans H; rw [hy187]; with_reducible exact H2_) | (have H2_ := (Option.bind_some _ _).symm.trans H; with_reducible exact H2_) | with_reducible exact H | (rw [hy187]; exact H) | exact H
      have Ny187 := Aside0.mk hy187
      clear hy187
      by_cases c62 : 0 ≤ (l1.length : Int)
      · rw [if_pos c62] at H
        have c62b0 := eq_true c62
        have c62b1 : decide (0 ≤ (l1.length : Int)) = true := decide_eq_true c62
        clear c62
        by_cases c63 : (l1.length : Int) ≤ (t170.length : Int)
        · rw [if_pos c63] at H
          have c63b0 := eq_true c63
          have c63b1 : decide ((l1.length : Int) ≤ (t170.length : Int)) = true := decide_eq_true c63
          clear c63
          obtain ⟨y190, hy190⟩ : ∃ y_ : List Int, y_ = (t170.drop ((l1.length : Int) : Int).toNat) := ⟨_, rfl⟩
          replace H : (if y187.length + y190.length < 140737488355328 then ((some (y187 ++ y190 : List Int)).bind fun y194 => (if y194.length + l2.length < 140737488355328 then ((vint_Get.f kj13 (y194 ++ l2)).bind fun bt200 => ((some (([] : List Int) : List Int)).bind fun y203 => (if (l1.length : Int) ≤ (t177.length : Int) then ((some (t177.drop ((l1.length : Int) : Int).toNat : List Int)).bind fun y206 => (if y203.length + y206.length < 140737488355328 then ((some (y203 ++ y206 : List Int)).bind fun y210 => (if y210.length + l2.length < 140737488355328 then ((vint_GetInt.f kj13 (y210 ++ l2)).bind fun bt216 => (if bt200.2.2 = 0 then (if bt216.2.2 = 0 then (if bt200.1 = a0 then (if bt216.1 = (wrap64 (a0)) then (if bt200.2.1 = (wrap64 ((t170.length : Int) - (l1.length : Int))) then (if bt216.2.1 = (wrap64 ((t177.length : Int) - (l1.length : Int))) then ((vint_Len.f kj13 a0).bind fun t219 => (some (t219 == bt200.2.1))) else (some false)) else (some false)) else (some false)) else (some false)) else (some false)) else (some false))) else (none))) else (none))) else (none)))) else (none))) else (none)) = some r := by first | (rw [hy190]; with_reducible exact H) | (have H2_ := (Option.bind_some _ _).symm.trans H; rw [hy190]; with_reducible exact H2_) | (have H2_ := (Option.bind_some _ _).symm.trans H; with_reducible exact H2_) | with_reducible exact H | (rw [hy190]; exact H) | exact H
          have Ny190 := Aside0.mk hy190
          clear hy190
          by_cases c64 : y187.length + y190.length < 140737488355328
          · rw [if_pos c64] at H
            have LMc64 := Aside0.mk c64
            clear c64
            obtain ⟨y194, hy194⟩ : ∃ y_ : List Int, y_ = (y187 ++ y190) := ⟨_, rfl⟩
            replace H : (if y194.length + l2.length < 140737488355328 then ((vint_Get.f kj13 (y194 ++ l2)).bind fun bt200 => ((some (([] : List Int) : List Int)).bind fun y203 => (if (l1.length : Int) ≤ (t177.length : Int) then ((some (t177.drop ((l1.length : Int) : Int).toNat : List Int)).bind fun y206 => (if y203.length + y206.length < 140737488355328 then ((some (y203 ++ y206 : List Int)).bind fun y210 => (if y210.length + l2.length < 140737488355328 then ((vint_GetInt.f kj13 (y210 ++ l2)).bind fun bt216 => (if bt200.2.2 = 0 then (if bt216.2.2 = 0 then (if bt200.1 = a0 then (if bt216.1 = (wrap64 (a0)) then (if bt200.2.1 = (wrap64 ((t170.length : Int) - (l1.length : Int))) then (if bt216.2.1 = (wrap64 ((t177.length : Int) - (l1.length : Int))) then ((vint_Len.f kj13 a0).bind fun t219 => (some (t219 == bt200.2.1))) else (some false)) else (some false)) else (some false)) else (some false)) else (some false)) else (some false))) else (none))) else (none))) else (none)))) else (none)) = some r := by first | (rw [hy194]; with_reducible exact H) | (have H2_ := (Option.bind_some _ _).symm.trans H; rw [hy194]; with_reducible exact H2_) | (have H2_ := (Option.bind_some _ _).symm.trans H; with_reducible exact H2_) | with_reducible exact H | (rw [hy194]; exact H) | exact H
            have Ny194 := Aside0.mk hy194
            clear hy194
            by_cases c65 : y194.length + l2.length < 140737488355328
            · rw [if_pos c65] at H
              have LMc65 := Aside0.mk c65
              clear c65
              obtain ⟨y197, hy197⟩ : ∃ y_ : List Int, y_ = (y194 ++ l2) := ⟨_, rfl⟩
              replace H : ((vint_Get.f kj13 y197).bind fun bt200 => ((some (([] : List Int) : List Int)).bind fun y203 => (if (l1.length : Int) ≤ (t177.length : Int) then ((some (t177.drop ((l1.length : Int) : Int).toNat : List Int)).bind fun y206 => (if y203.length + y206.length < 140737488355328 then ((some (y203 ++ y206 : List Int)).bind fun y210 => (if y210.length + l2.length < 140737488355328 then ((vint_GetInt.f kj13 (y210 ++ l2)).bind fun bt216 => (if bt200.2.2 = 0 then (if bt216.2.2 = 0 then (if bt200.1 = a0 then (if bt216.1 = (wrap64 (a0)) then (if bt200.2.1 = (wrap64 ((t170.length : Int) - (l1.length : Int))) then (if bt216.2.1 = (wrap64 ((t177.length : Int) - (l1.length : Int))) then ((vint_Len.f kj13 a0).bind fun t219 => (some (t219 == bt200.2.1))) else (some false)) else (some false)) else (some false)) else (some false)) else (some false)) else (some false))) else (none))) else (none))) else (none)))) = some r := by first | (rw [hy197]; with_reducible exact H) | (have H2_ := (Option.bind_some _ _).symm.trans H; rw [hy197]; with_reducible exact H2_) | (have H2_ := (Option.bind_some _ _).symm.trans H; with_reducible exact H2_) | with_reducible exact H | (rw [hy197]; exact H) | exact H
              have Ny197 := Aside0.mk hy197
              clear hy197
              replace H := Option.bind_eq_some_iff.mp H
              obtain ⟨⟨t200, t201, t202⟩, A660, H⟩ := H
              replace H : ((some (([] : List Int) : List Int)).bind fun y203 => (if (l1.length : Int) ≤ (t177.length : Int) then ((some (t177.drop ((l1.length : Int) : Int).toNat : List Int)).bind fun y206 => (if y203.length + y206.length < 140737488355328 then ((some (y203 ++ y206 : List Int)).bind fun y210 => (if y210.length + l2.length < 140737488355328 then ((vint_GetInt.f kj13 (y210 ++ l2)).bind fun bt216 => (if t202 = 0 then (if bt216.2.2 = 0 then (if t200 = a0 then (if bt216.1 = (wrap64 (a0)) then (if t201 = (wrap64 ((t170.length : Int) - (l1.length : Int))) then (if bt216.2.1 = (wrap64 ((t177.length : Int) - (l1.length : Int))) then ((vint_Len.f kj13 a0).bind fun t219 => (some (t219 == t201))) else (some false)) else (some false)) else (some false)) else (some false)) else (some false)) else (some false))) else (none))) else (none))) else (none))) = some r := H
              have A66 := Aside0.mk A660
              clear A660
              obtain ⟨y203, hy203⟩ : ∃ y_ : List Int, y_ = (([] : List Int)) := ⟨_, rfl⟩
              replace H : (if (l1.length : Int) ≤ (t177.length : Int) then ((some (t177.drop ((l1.length : Int) : Int).toNat : List Int)).bind fun y206 => (if y203.length + y206.length < 140737488355328 then ((some (y203 ++ y206 : List Int)).bind fun y210 => (if y210.length + l2.length < 140737488355328 then ((vint_GetInt.f kj13 (y210 ++ l2)).bind fun bt216 => (if t202 = 0 then (if bt216.2.2 = 0 then (if t200 = a0 then (if bt216.1 = (wrap64 (a0)) then (if t201 = (wrap64 ((t170.length : Int) - (l1.length : Int))) then (if bt216.2.1 = (wrap64 ((t177.length : Int) - (l1.length : Int))) then ((vint_Len.f kj13 a0).bind fun t219 => (some (t219 == t201))) else (some false)) else (some false)) else (some false)) else (some false)) else (some false)) else (some false))) else (none))) else (none))) else (none)) = some r := by first | (rw [hy203]; with_reducible exact H) | (have H2_ := (Option.bind_some _ _).symm.trans H; rw [hy203]; with_reducible exact H2_) | (have H2_ := (Option.bind_some _ _).symm.trans H; with_reducible exact H2_) | with_reducible exact H | (rw [hy203]; exact H) | exact H
              have Ny203 := Aside0.mk hy203
              clear hy203
              have c67b0 := eq_true (of_decide_eq_true (by first | (with_reducible assumption) | assumption) : 0 ≤ (l1.length : Int))
              by_cases c68 : (l1.length : Int) ≤ (t177.length : Int)
              · rw [if_pos c68] at H
                have c68b0 := eq_true c68
                have c68b1 : decide ((l1.length : Int) ≤ (t177.length : Int)) = true := decide_eq_true c68
                clear c68
                obtain ⟨y206, hy206⟩ : ∃ y_ : List Int, y_ = (t177.drop ((l1.length : Int) : Int).toNat) := ⟨_, rfl⟩
                replace H : (if y203.length + y206.length < 140737488355328 then ((some (y203 ++ y206 : List Int)).bind fun y210 => (if y210.length + l2.length < 140737488355328 then ((vint_GetInt.f kj13 (y210 ++ l2)).bind fun bt216 => (if t202 = 0 then (if bt216.2.2 = 0 then (if t200 = a0 then (if bt216.1 = (wrap64 (a0)) then (if t201 = (wrap64 ((t170.length : Int) - (l1.length : Int))) then (if bt216.2.1 = (wrap64 ((t177.length : Int) - (l1.length : Int))) then ((vint_Len.f kj13 a0).bind fun t219 => (some (t219 == t201))) else (some false)) else (some false)) else (some false)) else (some false)) else (some false)) else (some false))) else (none))) else (none)) = some r := by first | (rw [hy206]; with_reducible exact H) | (have H2_ := (Option.bind_some _ _).symm.trans H; rw [hy206]; with_reducible exact H2_) | (have H2_ := (Option.bind_some _ _).symm.trans H; with_reducible exact H2_) | with_reducible exact H | (rw [hy206]; exact H) | exact H
                have Ny206 := Aside0.mk hy206
                clear hy206
                by_cases c69 : y203.length + y206.length < 140737488355328
                · rw [if_pos c69] at H
                  have LMc69 := Aside0.mk c69
                  clear c69
                  obtain ⟨y210, hy210⟩ : ∃ y_ : List Int, y_ = (y203 ++ y206) := ⟨_, rfl⟩
                  replace H : (if y210.length + l2.length < 140737488355328 then ((vint_GetInt.f kj13 (y210 ++ l2)).bind fun bt216 => (if t202 = 0 then (if bt216.2.2 = 0 then (if t200 = a0 then (if bt216.1 = (wrap64 (a0)) then (if t201 = (wrap64 ((t170.length : Int) - (l1.length : Int))) then (if bt216.2.1 = (wrap64 ((t177.length : Int) - (l1.length : Int))) then ((vint_Len.f kj13 a0).bind fun t219 => (some (t219 == t201))) else (some false)) else (some false)) else (some false)) else (some false)) else (some false)) else (some false))) else (none)) = some r := by first | (rw [hy210]; with_reducible exact H) | (have H2_ := (Option.bind_some _ _).symm.trans H; rw [hy210]; with_reducible exact H2_) | (have H2_ := (Option.bind_some _ _).symm.trans H; with_reducible exact H2_) | with_reducible exact H | (rw [hy210]; exact H) | exact H
                  have Ny210 := Aside0.mk hy210
                  clear hy210
                  by_cases c70 : y210.length + l2.length < 140737488355328
                  · rw [if_pos c70] at H
                    have LMc70 := Aside0.mk c70
                    clear c70
                    obtain ⟨y213, hy213⟩ : ∃ y_ : List Int, y_ = (y210 ++ l2) := ⟨_, rfl⟩
                    replace H : ((vint_GetInt.f kj13 y213).bind fun bt216 => (if t202 = 0 then (if bt216.2.2 = 0 then (if t200 = a0 then (if bt216.1 = (wrap64 (a0)) then (if t201 = (wrap64 ((t170.length : Int) - (l1.length : Int))) then (if bt216.2.1 = (wrap64 ((t177.length : Int) - (l1.length : Int))) then ((vint_Len.f kj13 a0).bind fun t219 => (some (t219 == t201))) else (some false)) else (some false)) else (some false)) else (some false)) else (some false)) else (some false))) = some r := by first | (rw [hy213]; with_reducible exact H) | (have H2_ := (Option.bind_some _ _).symm.trans H; rw [hy213]; with_reducible exact H2_) | (have H2_ := (Option.bind_some _ _).symm.trans H; with_reducible exact H2_) | with_reducible exact H | (rw [hy213]; exact H) | exact H
                    have Ny213 := Aside0.mk hy213
                    clear hy213
                    replace H := Option.bind_eq_some_iff.mp H
                    obtain ⟨⟨t216, t217, t218⟩, A710, H⟩ := H
                    replace H : (if t202 = 0 then (if t218 = 0 then (if t200 = a0 then (if t216 = (wrap64 (a0)) then (if t201 = (wrap64 ((t170.length : Int) - (l1.length : Int))) then (if t217 = (wrap64 ((t177.length : Int) - (l1.length : Int))) then ((vint_Len.f kj13 a0).bind fun t219 => (some (t219 == t201))) else (some false)) else (some false)) else (some false)) else (some false)) else (some false)) else (some false)) = some r := H
                    have A71 := Aside0.mk A710
                    clear A710
                    by_cases c72 : t202 = 0
                    · rw [if_pos c72] at H
                      have c72b0 : (t202 == 0) = true := beq_iff_eq.mpr c72
                      have c72b1 : (t202 != 0) = false := bne_eq_false_iff_eq.mpr c72
                      clear c72
                      by_cases c73 : t218 = 0
                      · rw [if_pos c73] at H
                        have c73b0 : (t218 == 0) = true := beq_iff_eq.mpr c73
                        have c73b1 : (t218 != 0) = false := bne_eq_false_iff_eq.mpr c73
                        clear c73
                        by_cases c74 : t200 = a0
                        · rw [if_pos c74] at H
                          have c74b0 : (t200 == a0) = true := beq_iff_eq.mpr c74
                          have c74b1 : (t200 != a0) = false := bne_eq_false_iff_eq.mpr c74
                          clear c74
                          by_cases c75 : t216 = (wrap64 (a0))
                          · rw [if_pos c75] at H
                            have c75b0 : (t216 == (wrap64 (a0))) = true := beq_iff_eq.mpr c75
                            have c75b1 : (t216 != (wrap64 (a0))) = false := bne_eq_false_iff_eq.mpr c75
                            clear c75
                            by_cases c76 : t201 = (wrap64 ((t170.length : Int) - (l1.length : Int)))
                            · rw [if_pos c76] at H
                              have c76b0 : (t201 == (wrap64 ((t170.length : Int) - (l1.length : Int)))) = true := beq_iff_eq.mpr c76
                              have c76b1 : (t201 != (wrap64 ((t170.length : Int) - (l1.length : Int)))) = false := bne_eq_false_iff_eq.mpr c76
                              clear c76
                              by_cases c77 : t217 = (wrap64 ((t177.length : Int) - (l1.length : Int)))
                              · rw [if_pos c77] at H
                                have c77b0 : (t217 == (wrap64 ((t177.length : Int) - (l1.length : Int)))) = true := beq_iff_eq.mpr c77
                                have c77b1 : (t217 != (wrap64 ((t177.length : Int) - (l1.length : Int)))) = false := bne_eq_false_iff_eq.mpr c77
                                clear c77
                                replace H := Option.bind_eq_some_iff.mp H
                                obtain ⟨t219, A780, H⟩ := H
                                replace H : (some (t219 == t201)) = some r := H
                                have A78 := Aside0.mk A780
                                clear A780
                                obtain rfl := Option.some.inj H
                                go_wp2_with (first | ((with_reducible refine gate_dst (N := 67) rfl ?_); (try (refine gate_guard (by rfl) ?_; dsimp only)); refine Kd.R_lit (Kd.int .u8) _ 5 ?hg (N := 67) ?hd (xs := ([] : List Int)) (inner := []) (ok := fun _ => True) (okp := fun _ => True) ?hr ?hp (fun _ hk => hk) trivial (Below.refl _ _) (Nat.le_refl _) (by simp) ?_; (case hd => rfl); (case hg => rfl); (case hr => first | (go_simp; done) | (go_simp; rfl)); (case hp => exact (Reps.none _ _)); intro v188 w79 ho80 hb hg_ hnew_; clear hg_ hnew_; (first | rw [← Ny187.out] at ho80 | (simp only [Int.reduceToNat] at ho80; rw [← Ny187.out] at ho80)); have n0_ := Aside0.mk (Kd.R_elder' (by (with_reducible repeat (first | apply Kd.R_alloc | apply Kd.R_drewN | apply Kd.R_drew)); exact HO_8.out) (Kd.R_base ho80) hb); have n1_ := Aside0.mk (Kd.R_elder' (by (with_reducible repeat (first | apply Kd.R_alloc | apply Kd.R_drewN | apply Kd.R_drew)); exact HO_9.out) (Kd.R_base ho80) hb); have n2_ := Aside0.mk (Kd.R_lower (Kd.R_new' (Kd.R_new' ho80 (Kd.R_lt (by (with_reducible repeat (first | apply Kd.R_alloc | apply Kd.R_drewN | apply Kd.R_drew)); exact HO_8.out))) (Kd.R_lt (by (with_reducible repeat (first | apply Kd.R_alloc | apply Kd.R_drewN | apply Kd.R_drew)); exact HO_9.out))) (below_size (by repeat (first | (with_reducible first | exact HB.out | apply below_alloc | apply pw_below_drewN | apply below_drew1) | exact HB.out)))); have n3_ := Aside0.mk (below_step (by repeat (first | (with_reducible first | exact HB.out | apply below_alloc | apply pw_below_drewN | apply below_drew1) | exact HB.out)) hb); clear HO_8; clear HO_9; clear HB; have HO_8 := n0_; have HO_9 := n1_; have HO189 := n2_; have HB := n3_; clear n0_ n1_ n2_ n3_; clear hb ho80; obtain ⟨Ao82, co82, eo82⟩ := Kd.R_slice HO_8.out; subst eo82; have q81 : ((l1.length : Int) : Int) ≤ ((t170.length : Int) : Int) := of_decide_eq_true (by first | (with_reducible assumption) | assumption); obtain ⟨i081, hi081, _, hsz81, _⟩ := info_parts info5; have hroom81 : t170.length ≤ co82 := (Kd.R_reads' HO_8.out).2.1; have hC81 : Kd.C (Kd.int .u8) _ Ao82 t170.length t170 := (Kd.R_reads' HO_8.out).2.2; have q081 : (0 : Int) ≤ ((l1.length : Int) : Int) := of_decide_eq_true (by first | (with_reducible assumption) | assumption); have hcut81 := cut_from (P := Try.prog) 27 5 .i64 Try.underlying27 hi081 1 hsz81 Ao82 t170.length co82 (l1.length : Int) q081 q81; have hr81 := Kd.C_drop (m := ((l1.length : Int) : Int).toNat) (c := co82) hC81 (by omega) hroom81; obtain ⟨A81, hA81⟩ : ∃ A1, A1 = (if co82 = ((l1.length : Int) : Int).toNat then Ao82 else (Ao82 : Option Addr).map (·.add (((l1.length : Int) : Int).toNat * 1))) := ⟨_, rfl⟩; obtain ⟨c81, hc81⟩ : ∃ c1, c1 = co82 - ((l1.length : Int) : Int).toNat := ⟨_, rfl⟩; have hy81 : y190.length = t170.length - ((l1.length : Int) : Int).toNat := (by rw [Ny190.out, List.length_drop] <;> omega); rw [show (t170).drop ((l1.length : Int) : Int).toNat = y190 from Ny190.out.symm] at hr81; replace hr81 : Kd.C (Kd.int .u8) _ A81 y190.length y190 := (by rw [hA81]; exact hr81); rw [← hy81, ← hA81, ← hc81] at hcut81; have HR193 := Aside0.mk hr81; have HC193 := Aside0.mk (show y190.length ≤ c81 from by rw [hy81, hc81]; exact Nat.sub_le_sub_right hroom81 _); clear hr81 hC81 hroom81 hi081 hsz81 hc81; have KY81 := Aside0.mk hy81; have KA81 := Aside0.mk hA81; clear hy81 hA81; have KL81 := Aside0.mk (show ((l1.length : Int) : Int).toNat ≤ t170.length from by omega); replace q81 := eq_true q81) | ((with_reducible refine gate_builtin (b := .append) (xs := #[.tmp 67, .tmp 71]) rfl ?_); (try (refine gate_guard (by rfl) ?_; dsimp only)); at_builtin; refine Kd.R_append_rows (Kd.int .u8) (w0 := w) w.heap.size rfl (.tmp 67) (.tmp 71) 27 5 (.int .u8 0) 1 rfl Try.underlying27 info5 rfl (by decide) (by omega) v188 y187 y190 _ _ _ (fun k_ => some k_ ≠ (.slice Ao82 t170.length co82 : Value).ownBlock ∧ some k_ ≠ (v178 : Value).ownBlock) (fun _ => False) rfl rfl ?aO ?aR (fun _ _ h => h) (fun _ h => h.elim) ?aF ?aB ?aS ?aL ?_; (case aR => repeat (first | exact (by repeat (first | (with_reducible exact HR193.out) | (with_reducible refine Kd.C_alloc ?_ _) | (with_reducible refine Kd.C_drewN ?_ _) | (with_reducible refine Kd.C_drew ?_) | exact HR193.out)) | (with_reducible refine Kd.C_alloc ?_ _) | (with_reducible refine Kd.C_drewN ?_ _) | (with_reducible refine Kd.C_drew ?_))); (case aB => exact (by repeat (first | (with_reducible first | exact HB.out | apply below_alloc | apply pw_below_drewN | apply below_drew1) | exact HB.out))); (case aF => exact (fun k_ hk => ⟨Kd.fresh' (Kd.R_lt (by (with_reducible repeat (first | apply Kd.R_alloc | apply Kd.R_drewN | apply Kd.R_drew)); exact HO_8.out)) k_ hk, Kd.fresh' (Kd.R_lt (by (with_reducible repeat (first | apply Kd.R_alloc | apply Kd.R_drewN | apply Kd.R_drew)); exact HO_9.out)) k_ hk⟩)); (case aO => exact (by (with_reducible repeat (first | apply Kd.R_alloc | apply Kd.R_drewN | apply Kd.R_drew)); exact Kd.R_mono HO189.out (fun _ hk => ⟨hk.1.2, hk.2⟩))); (case aS => exact (below_size (by repeat (first | (with_reducible first | exact HB.out | apply below_alloc | apply pw_below_drewN | apply below_drew1) | exact HB.out)))); (case aL => have := LMc64.out; omega); intro v195 w83 ho hb hg hat; rw [← Ny194.out] at ho; have n0_ := Aside0.mk (Kd.R_after (ok := (fun k_ => some k_ ≠ (v178 : Value).ownBlock)) (by (with_reducible repeat (first | apply Kd.R_alloc | apply Kd.R_drewN | apply Kd.R_drew)); exact HO_8.out) hg hat); have n1_ := Aside0.mk (Kd.R_after (ok := (fun k_ => some k_ ≠ (.slice Ao82 t170.length co82 : Value).ownBlock)) (by (with_reducible repeat (first | apply Kd.R_alloc | apply Kd.R_drewN | apply Kd.R_drew)); exact HO_9.out) hg hat); have n2_ := Aside0.mk (hb); have n3_ := Aside0.mk ((show Kd.C (Kd.int .u8) w83 A81 y190.length y190 from by rw [Ny190.out, KA81.out]; exact Kd.C_drop (m := ((l1.length : Int) : Int).toNat) (c := co82) ((Kd.R_reads' (Kd.R_after (ok := (fun k_ => some k_ ≠ (v178 : Value).ownBlock)) (by (with_reducible repeat (first | apply Kd.R_alloc | apply Kd.R_drewN | apply Kd.R_drew)); exact HO_8.out) hg hat)).2.2) KL81.out ((Kd.R_reads' (Kd.R_after (ok := (fun k_ => some k_ ≠ (v178 : Value).ownBlock)) (by (with_reducible repeat (first | apply Kd.R_alloc | apply Kd.R_drewN | apply Kd.R_drew)); exact HO_8.out) hg hat)).2.1))); have n4_ := Aside0.mk (ho); clear HO_8; clear HO_9; clear HB; clear HR193; clear HO189; have HO_8 := n0_; have HO_9 := n1_; have HB := n2_; have HR193 := n3_; have HO196 := n4_; clear n0_ n1_ n2_ n3_ n4_; clear ho hb hg hat) | ((with_reducible refine gate_builtin (b := .append) (xs := #[.tmp 72, .tmp 73]) rfl ?_); (try (refine gate_guard (by rfl) ?_; dsimp only)); at_builtin; refine Kd.R_append_rows (Kd.int .u8) (w0 := w) w.heap.size rfl (.tmp 72) (.tmp 73) 27 5 (.int .u8 0) 1 rfl Try.underlying27 info5 rfl (by decide) (by omega) v195 y194 l2 _ _ _ (fun k_ => some k_ ≠ (.slice Ao82 t170.length co82 : Value).ownBlock ∧ some k_ ≠ (v178 : Value).ownBlock) (fun _ => False) rfl rfl ?aO ?aR (fun _ _ h => h) (fun _ h => h.elim) ?aF ?aB ?aS ?aL ?_; (case aR => repeat (first | exact (Kd.C_below HR2.out HB.out) | (with_reducible refine Kd.C_alloc ?_ _) | (with_reducible refine Kd.C_drewN ?_ _) | (with_reducible refine Kd.C_drew ?_))); (case aB => exact (by repeat (first | (with_reducible first | exact HB.out | apply below_alloc | apply pw_below_drewN | apply below_drew1) | exact HB.out))); (case aF => exact (fun k_ hk => ⟨Kd.fresh' (Kd.R_lt (by (with_reducible repeat (first | apply Kd.R_alloc | apply Kd.R_drewN | apply Kd.R_drew)); exact HO_8.out)) k_ hk, Kd.fresh' (Kd.R_lt (by (with_reducible repeat (first | apply Kd.R_alloc | apply Kd.R_drewN | apply Kd.R_drew)); exact HO_9.out)) k_ hk⟩)); (case aO => exact (by (with_reducible repeat (first | apply Kd.R_alloc | apply Kd.R_drewN | apply Kd.R_drew)); exact HO196.out)); (case aS => exact (below_size (by repeat (first | (with_reducible first | exact HB.out | apply below_alloc | apply pw_below_drewN | apply below_drew1) | exact HB.out)))); (case aL => have := LMc65.out; omega); intro v198 w84 ho hb hg hat; rw [← Ny197.out] at ho; have n0_ := Aside0.mk (Kd.R_after (ok := (fun k_ => some k_ ≠ (v178 : Value).ownBlock)) (by (with_reducible repeat (first | apply Kd.R_alloc | apply Kd.R_drewN | apply Kd.R_drew)); exact HO_8.out) hg hat); have n1_ := Aside0.mk (Kd.R_after (ok := (fun k_ => some k_ ≠ (.slice Ao82 t170.length co82 : Value).ownBlock)) (by (with_reducible repeat (first | apply Kd.R_alloc | apply Kd.R_drewN | apply Kd.R_drew)); exact HO_9.out) hg hat); have n2_ := Aside0.mk (hb); have n3_ := Aside0.mk ((show Kd.C (Kd.int .u8) w84 A81 y190.length y190 from by rw [Ny190.out, KA81.out]; exact Kd.C_drop (m := ((l1.length : Int) : Int).toNat) (c := co82) ((Kd.R_reads' (Kd.R_after (ok := (fun k_ => some k_ ≠ (v178 : Value).ownBlock)) (by (with_reducible repeat (first | apply Kd.R_alloc | apply Kd.R_drewN | apply Kd.R_drew)); exact HO_8.out) hg hat)).2.2) KL81.out ((Kd.R_reads' (Kd.R_after (ok := (fun k_ => some k_ ≠ (v178 : Value).ownBlock)) (by (with_reducible repeat (first | apply Kd.R_alloc | apply Kd.R_drewN | apply Kd.R_drew)); exact HO_8.out) hg hat)).2.1))); have n4_ := Aside0.mk (ho); clear HO_8; clear HO_9; clear HB; clear HR193; clear HO196; have HO_8 := n0_; have HO_9 := n1_; have HB := n2_; have HR193 := n3_; have HO199 := n4_; clear n0_ n1_ n2_ n3_ n4_; clear ho hb hg hat; obtain ⟨Ao85, co85, eo85⟩ := Kd.R_slice HO199.out; subst eo85) | ((with_reducible refine gate_callee (f := 9) rfl ?_); refine goesL_ (some 75) rfl rfl Try.func9 (by kernel_rfl) rfl #[.slice Ao85 y197.length co85] rfl (by (try simp only [List.map_toArray, List.map_cons, List.map_nil]); first | done | rfl | (simp only [List.length_drop, List.length_take]; rfl)) ?_; (with_reducible refine (vint_Get.calls kj13 _ _ y197 t200 t201 t202 _ ?side1 ?side2 A66.out).mono ?_); (case side1 => repeat (first | exact (Kd.R_reads' HO199.out).2.2 | (with_reducible refine Kd.C_alloc ?_ _) | (with_reducible refine Kd.C_drewN ?_ _) | (with_reducible refine Kd.C_drew ?_))); (case side2 => exact (Kd.R_reads' HO199.out).2.1); rintro e w86 ⟨rfl, hb⟩; refine ⟨_, rfl, ?_⟩; have n0_ := Aside0.mk (Kd.R_below (by (with_reducible repeat (first | apply Kd.R_alloc | apply Kd.R_drewN | apply Kd.R_drew)); exact HO_8.out) hb); have n1_ := Aside0.mk (Kd.R_below (by (with_reducible repeat (first | apply Kd.R_alloc | apply Kd.R_drewN | apply Kd.R_drew)); exact HO_9.out) hb); have n2_ := Aside0.mk (Kd.R_below (by (with_reducible repeat (first | apply Kd.R_alloc | apply Kd.R_drewN | apply Kd.R_drew)); exact HO199.out) hb); have n3_ := Aside0.mk (Kd.C_below (by repeat (first | (with_reducible exact HR193.out) | (with_reducible refine Kd.C_alloc ?_ _) | (with_reducible refine Kd.C_drewN ?_ _) | (with_reducible refine Kd.C_drew ?_) | exact HR193.out)) hb); have n4_ := Aside0.mk (below_step (by repeat (first | (with_reducible first | exact HB.out | apply below_alloc | apply pw_below_drewN | apply below_drew1) | exact HB.out)) hb); clear HO_8; clear HO_9; clear HO199; clear HR193; clear HB; have HO_8 := n0_; have HO_9 := n1_; have HO199 := n2_; have HR193 := n3_; have HB := n4_; clear n0_ n1_ n2_ n3_ n4_; (try clear hb); (try clear hb2); (try clear hk); (try clear hi)) | ((with_reducible refine gate_dst (N := 80) rfl ?_); (try (refine gate_guard (by rfl) ?_; dsimp only)); refine Kd.R_lit (Kd.int .u8) _ 5 ?hg (N := 80) ?hd (xs := ([] : List Int)) (inner := []) (ok := fun _ => True) (okp := fun _ => True) ?hr ?hp (fun _ hk => hk) trivial (Below.refl _ _) (Nat.le_refl _) (by simp) ?_; (case hd => rfl); (case hg => rfl); (case hr => first | (go_simp; done) | (go_simp; rfl)); (case hp => exact (Reps.none _ _)); intro v204 w87 ho88 hb hg_ hnew_; clear hg_ hnew_; (first | rw [← Ny203.out] at ho88 | (simp only [Int.reduceToNat] at ho88; rw [← Ny203.out] at ho88)); have n0_ := Aside0.mk (Kd.R_elder' (by (with_reducible repeat (first | apply Kd.R_alloc | apply Kd.R_drewN | apply Kd.R_drew)); exact HO_8.out) (Kd.R_base ho88) hb); have n1_ := Aside0.mk (Kd.R_elder' (by (with_reducible repeat (first | apply Kd.R_alloc | apply Kd.R_drewN | apply Kd.R_drew)); exact HO_9.out) (Kd.R_base ho88) hb); have n2_ := Aside0.mk (Kd.R_elder' (by (with_reducible repeat (first | apply Kd.R_alloc | apply Kd.R_drewN | apply Kd.R_drew)); exact HO199.out) (Kd.R_base ho88) hb); have n3_ := Aside0.mk (Kd.R_lower (Kd.R_new' (Kd.R_new' (Kd.R_new' ho88 (Kd.R_lt (by (with_reducible repeat (first | apply Kd.R_alloc | apply Kd.R_drewN | apply Kd.R_drew)); exact HO_8.out))) (Kd.R_lt (by (with_reducible repeat (first | apply Kd.R_alloc | apply Kd.R_drewN | apply Kd.R_drew)); exact HO_9.out))) (Kd.R_lt (by (with_reducible repeat (first | apply Kd.R_alloc | apply Kd.R_drewN | apply Kd.R_drew)); exact HO199.out))) (below_size (by repeat (first | (with_reducible first | exact HB.out | apply below_alloc | apply pw_below_drewN | apply below_drew1) | exact HB.out)))); have n4_ := Aside0.mk (Kd.C_below (by repeat (first | (with_reducible exact HR193.out) | (with_reducible refine Kd.C_alloc ?_ _) | (with_reducible refine Kd.C_drewN ?_ _) | (with_reducible refine Kd.C_drew ?_) | exact HR193.out)) hb); have n5_ := Aside0.mk (below_step (by repeat (first | (with_reducible first | exact HB.out | apply below_alloc | apply pw_below_drewN | apply below_drew1) | exact HB.out)) hb); clear HO_8; clear HO_9; clear HO199; clear HR193; clear HB; have HO_8 := n0_; have HO_9 := n1_; have HO199 := n2_; have HO205 := n3_; have HR193 := n4_; have HB := n5_; clear n0_ n1_ n2_ n3_ n4_ n5_; clear hb ho88; obtain ⟨Ao90, co90, eo90⟩ := Kd.R_slice HO_9.out; subst eo90; have q89 : ((l1.length : Int) : Int) ≤ ((t177.length : Int) : Int) := of_decide_eq_true (by first | (with_reducible assumption) | assumption); obtain ⟨i089, hi089, _, hsz89, _⟩ := info_parts info5; have hroom89 : t177.length ≤ co90 := (Kd.R_reads' HO_9.out).2.1; have hC89 : Kd.C (Kd.int .u8) _ Ao90 t177.length t177 := (Kd.R_reads' HO_9.out).2.2; have q089 : (0 : Int) ≤ ((l1.length : Int) : Int) := of_decide_eq_true (by first | (with_reducible assumption) | assumption); have hcut89 := cut_from (P := Try.prog) 27 5 .i64 Try.underlying27 hi089 1 hsz89 Ao90 t177.length co90 (l1.length : Int) q089 q89; have hr89 := Kd.C_drop (m := ((l1.length : Int) : Int).toNat) (c := co90) hC89 (by omega) hroom89; obtain ⟨A89, hA89⟩ : ∃ A1, A1 = (if co90 = ((l1.length : Int) : Int).toNat then Ao90 else (Ao90 : Option Addr).map (·.add (((l1.length : Int) : Int).toNat * 1))) := ⟨_, rfl⟩; obtain ⟨c89, hc89⟩ : ∃ c1, c1 = co90 - ((l1.length : Int) : Int).toNat := ⟨_, rfl⟩; have hy89 : y206.length = t177.length - ((l1.length : Int) : Int).toNat := (by rw [Ny206.out, List.length_drop] <;> omega); rw [show (t177).drop ((l1.length : Int) : Int).toNat = y206 from Ny206.out.symm] at hr89; replace hr89 : Kd.C (Kd.int .u8) _ A89 y206.length y206 := (by rw [hA89]; exact hr89); rw [← hy89, ← hA89, ← hc89] at hcut89; have HR209 := Aside0.mk hr89; have HC209 := Aside0.mk (show y206.length ≤ c89 from by rw [hy89, hc89]; exact Nat.sub_le_sub_right hroom89 _); clear hr89 hC89 hroom89 hi089 hsz89 hc89; have KY89 := Aside0.mk hy89; have KA89 := Aside0.mk hA89; clear hy89 hA89; have KL89 := Aside0.mk (show ((l1.length : Int) : Int).toNat ≤ t177.length from by omega); replace q89 := eq_true q89) | ((with_reducible refine gate_builtin (b := .append) (xs := #[.tmp 80, .tmp 84]) rfl ?_); (try (refine gate_guard (by rfl) ?_; dsimp only)); at_builtin; refine Kd.R_append_rows (Kd.int .u8) (w0 := w) w.heap.size rfl (.tmp 80) (.tmp 84) 27 5 (.int .u8 0) 1 rfl Try.underlying27 info5 rfl (by decide) (by omega) v204 y203 y206 _ _ _ (fun k_ => some k_ ≠ (.slice Ao82 t170.length co82 : Value).ownBlock ∧ some k_ ≠ (.slice Ao90 t177.length co90 : Value).ownBlock ∧ some k_ ≠ (.slice Ao85 y197.length co85 : Value).ownBlock) (fun _ => False) rfl rfl ?aO ?aR (fun _ _ h => h) (fun _ h => h.elim) ?aF ?aB ?aS ?aL ?_; (case aR => repeat (first | exact (by repeat (first | (with_reducible exact HR209.out) | (with_reducible refine Kd.C_alloc ?_ _) | (with_reducible refine Kd.C_drewN ?_ _) | (with_reducible refine Kd.C_drew ?_) | exact HR209.out)) | (with_reducible refine Kd.C_alloc ?_ _) | (with_reducible refine Kd.C_drewN ?_ _) | (with_reducible refine Kd.C_drew ?_))); (case aB => exact (by repeat (first | (with_reducible first | exact HB.out | apply below_alloc | apply pw_below_drewN | apply below_drew1) | exact HB.out))); (case aF => exact (fun k_ hk => ⟨Kd.fresh' (Kd.R_lt (by (with_reducible repeat (first | apply Kd.R_alloc | apply Kd.R_drewN | apply Kd.R_drew)); exact HO_8.out)) k_ hk, Kd.fresh' (Kd.R_lt (by (with_reducible repeat (first | apply Kd.R_alloc | apply Kd.R_drewN | apply Kd.R_drew)); exact HO_9.out)) k_ hk, Kd.fresh' (Kd.R_lt (by (with_reducible repeat (first | apply Kd.R_alloc | apply Kd.R_drewN | apply Kd.R_drew)); exact HO199.out)) k_ hk⟩)); (case aO => exact (by (with_reducible repeat (first | apply Kd.R_alloc | apply Kd.R_drewN | apply Kd.R_drew)); exact Kd.R_mono HO205.out (fun _ hk => ⟨hk.1.1.2, ⟨hk.1.2, hk.2⟩⟩))); (case aS => exact (below_size (by repeat (first | (with_reducible first | exact HB.out | apply below_alloc | apply pw_below_drewN | apply below_drew1) | exact HB.out)))); (case aL => have := LMc69.out; omega); intro v211 w91 ho hb hg hat; rw [← Ny210.out] at ho; have n0_ := Aside0.mk (Kd.R_after (ok := (fun k_ => some k_ ≠ (.slice Ao90 t177.length co90 : Value).ownBlock ∧ some k_ ≠ (.slice Ao85 y197.length co85 : Value).ownBlock)) (by (with_reducible repeat (first | apply Kd.R_alloc | apply Kd.R_drewN | apply Kd.R_drew)); exact HO_8.out) hg hat); have n1_ := Aside0.mk (Kd.R_after (ok := (fun k_ => some k_ ≠ (.slice Ao82 t170.length co82 : Value).ownBlock ∧ some k_ ≠ (.slice Ao85 y197.length co85 : Value).ownBlock)) (by (with_reducible repeat (first | apply Kd.R_alloc | apply Kd.R_drewN | apply Kd.R_drew)); exact HO_9.out) hg hat); have n2_ := Aside0.mk (Kd.R_after (ok := (fun k_ => some k_ ≠ (.slice Ao82 t170.length co82 : Value).ownBlock ∧ some k_ ≠ (.slice Ao90 t177.length co90 : Value).ownBlock)) (by (with_reducible repeat (first | apply Kd.R_alloc | apply Kd.R_drewN | apply Kd.R_drew)); exact HO199.out) hg hat); have n3_ := Aside0.mk (hb); have n4_ := Aside0.mk ((show Kd.C (Kd.int .u8) w91 A81 y190.length y190 from by rw [Ny190.out, KA81.out]; exact Kd.C_drop (m := ((l1.length : Int) : Int).toNat) (c := co82) ((Kd.R_reads' (Kd.R_after (ok := (fun k_ => some k_ ≠ (.slice Ao90 t177.length co90 : Value).ownBlock ∧ some k_ ≠ (.slice Ao85 y197.length co85 : Value).ownBlock)) (by (with_reducible repeat (first | apply Kd.R_alloc | apply Kd.R_drewN | apply Kd.R_drew)); exact HO_8.out) hg hat)).2.2) KL81.out ((Kd.R_reads' (Kd.R_after (ok := (fun k_ => some k_ ≠ (.slice Ao90 t177.length co90 : Value).ownBlock ∧ some k_ ≠ (.slice Ao85 y197.length co85 : Value).ownBlock)) (by (with_reducible repeat (first | apply Kd.R_alloc | apply Kd.R_drewN | apply Kd.R_drew)); exact HO_8.out) hg hat)).2.1))); have n5_ := Aside0.mk ((show Kd.C (Kd.int .u8) w91 A89 y206.length y206 from by rw [Ny206.out, KA89.out]; exact Kd.C_drop (m := ((l1.length : Int) : Int).toNat) (c := co90) ((Kd.R_reads' (Kd.R_after (ok := (fun k_ => some k_ ≠ (.slice Ao82 t170.length co82 : Value).ownBlock ∧ some k_ ≠ (.slice Ao85 y197.length co85 : Value).ownBlock)) (by (with_reducible repeat (first | apply Kd.R_alloc | apply Kd.R_drewN | apply Kd.R_drew)); exact HO_9.out) hg hat)).2.2) KL89.out ((Kd.R_reads' (Kd.R_after (ok := (fun k_ => some k_ ≠ (.slice Ao82 t170.length co82 : Value).ownBlock ∧ some k_ ≠ (.slice Ao85 y197.length co85 : Value).ownBlock)) (by (with_reducible repeat (first | apply Kd.R_alloc | apply Kd.R_drewN | apply Kd.R_drew)); exact HO_9.out) hg hat)).2.1))); have n6_ := Aside0.mk (ho); clear HO_8; clear HO_9; clear HO199; clear HB; clear HR193; clear HR209; clear HO205; have HO_8 := n0_; have HO_9 := n1_; have HO199 := n2_; have HB := n3_; have HR193 := n4_; have HR209 := n5_; have HO212 := n6_; clear n0_ n1_ n2_ n3_ n4_ n5_ n6_; clear ho hb hg hat) | ((with_reducible refine gate_builtin (b := .append) (xs := #[.tmp 85, .tmp 86]) rfl ?_); (try (refine gate_guard (by rfl) ?_; dsimp only)); at_builtin; refine Kd.R_append_rows (Kd.int .u8) (w0 := w) w.heap.size rfl (.tmp 85) (.tmp 86) 27 5 (.int .u8 0) 1 rfl Try.underlying27 info5 rfl (by decide) (by omega) v211 y210 l2 _ _ _ (fun k_ => some k_ ≠ (.slice Ao82 t170.length co82 : Value).ownBlock ∧ some k_ ≠ (.slice Ao90 t177.length co90 : Value).ownBlock ∧ some k_ ≠ (.slice Ao85 y197.length co85 : Value).ownBlock) (fun _ => False) rfl rfl ?aO ?aR (fun _ _ h => h) (fun _ h => h.elim) ?aF ?aB ?aS ?aL ?_; (case aR => repeat (first | exact (Kd.C_below HR2.out HB.out) | (with_reducible refine Kd.C_alloc ?_ _) | (with_reducible refine Kd.C_drewN ?_ _) | (with_reducible refine Kd.C_drew ?_))); (case aB => exact (by repeat (first | (with_reducible first | exact HB.out | apply below_alloc | apply pw_below_drewN | apply below_drew1) | exact HB.out))); (case aF => exact (fun k_ hk => ⟨Kd.fresh' (Kd.R_lt (by (with_reducible repeat (first | apply Kd.R_alloc | apply Kd.R_drewN | apply Kd.R_drew)); exact HO_8.out)) k_ hk, Kd.fresh' (Kd.R_lt (by (with_reducible repeat (first | apply Kd.R_alloc | apply Kd.R_drewN | apply Kd.R_drew)); exact HO_9.out)) k_ hk, Kd.fresh' (Kd.R_lt (by (with_reducible repeat (first | apply Kd.R_alloc | apply Kd.R_drewN | apply Kd.R_drew)); exact HO199.out)) k_ hk⟩)); (case aO => exact (by (with_reducible repeat (first | apply Kd.R_alloc | apply Kd.R_drewN | apply Kd.R_drew)); exact HO212.out)); (case aS => exact (below_size (by repeat (first | (with_reducible first | exact HB.out | apply below_alloc | apply pw_below_drewN | apply below_drew1) | exact HB.out)))); (case aL => have := LMc70.out; omega); intro v214 w92 ho hb hg hat; rw [← Ny213.out] at ho; have n0_ := Aside0.mk (Kd.R_after (ok := (fun k_ => some k_ ≠ (.slice Ao90 t177.length co90 : Value).ownBlock ∧ some k_ ≠ (.slice Ao85 y197.length co85 : Value).ownBlock)) (by (with_reducible repeat (first | apply Kd.R_alloc | apply Kd.R_drewN | apply Kd.R_drew)); exact HO_8.out) hg hat); have n1_ := Aside0.mk (Kd.R_after (ok := (fun k_ => some k_ ≠ (.slice Ao82 t170.length co82 : Value).ownBlock ∧ some k_ ≠ (.slice Ao85 y197.length co85 : Value).ownBlock)) (by (with_reducible repeat (first | apply Kd.R_alloc | apply Kd.R_drewN | apply Kd.R_drew)); exact HO_9.out) hg hat); have n2_ := Aside0.mk (Kd.R_after (ok := (fun k_ => some k_ ≠ (.slice Ao82 t170.length co82 : Value).ownBlock ∧ some k_ ≠ (.slice Ao90 t177.length co90 : Value).ownBlock)) (by (with_reducible repeat (first | apply Kd.R_alloc | apply Kd.R_drewN | apply Kd.R_drew)); exact HO199.out) hg hat); have n3_ := Aside0.mk (hb); have n4_ := Aside0.mk ((show Kd.C (Kd.int .u8) w92 A81 y190.length y190 from by rw [Ny190.out, KA81.out]; exact Kd.C_drop (m := ((l1.length : Int) : Int).toNat) (c := co82) ((Kd.R_reads' (Kd.R_after (ok := (fun k_ => some k_ ≠ (.slice Ao90 t177.length co90 : Value).ownBlock ∧ some k_ ≠ (.slice Ao85 y197.length co85 : Value).ownBlock)) (by (with_reducible repeat (first | apply Kd.R_alloc | apply Kd.R_drewN | apply Kd.R_drew)); exact HO_8.out) hg hat)).2.2) KL81.out ((Kd.R_reads' (Kd.R_after (ok := (fun k_ => some k_ ≠ (.slice Ao90 t177.length co90 : Value).ownBlock ∧ some k_ ≠ (.slice Ao85 y197.length co85 : Value).ownBlock)) (by (with_reducible repeat (first | apply Kd.R_alloc | apply Kd.R_drewN | apply Kd.R_drew)); exact HO_8.out) hg hat)).2.1))); have n5_ := Aside0.mk ((show Kd.C (Kd.int .u8) w92 A89 y206.length y206 from by rw [Ny206.out, KA89.out]; exact Kd.C_drop (m := ((l1.length : Int) : Int).toNat) (c := co90) ((Kd.R_reads' (Kd.R_after (ok := (fun k_ => some k_ ≠ (.slice Ao82 t170.length co82 : Value).ownBlock ∧ some k_ ≠ (.slice Ao85 y197.length co85 : Value).ownBlock)) (by (with_reducible repeat (first | apply Kd.R_alloc | apply Kd.R_drewN | apply Kd.R_drew)); exact HO_9.out) hg hat)).2.2) KL89.out ((Kd.R_reads' (Kd.R_after (ok := (fun k_ => some k_ ≠ (.slice Ao82 t170.length co82 : Value).ownBlock ∧ some k_ ≠ (.slice Ao85 y197.length co85 : Value).ownBlock)) (by (with_reducible repeat (first | apply Kd.R_alloc | apply Kd.R_drewN | apply Kd.R_drew)); exact HO_9.out) hg hat)).2.1))); have n6_ := Aside0.mk (ho); clear HO_8; clear HO_9; clear HO199; clear HB; clear HR193; clear HR209; clear HO212; have HO_8 := n0_; have HO_9 := n1_; have HO199 := n2_; have HB := n3_; have HR193 := n4_; have HR209 := n5_; have HO215 := n6_; clear n0_ n1_ n2_ n3_ n4_ n5_ n6_; clear ho hb hg hat; obtain ⟨Ao93, co93, eo93⟩ := Kd.R_slice HO215.out; subst eo93) | ((with_reducible refine gate_callee (f := 14) rfl ?_); refine goesL_ (some 88) rfl rfl Try.func14 (by kernel_rfl) rfl #[.slice Ao93 y213.length co93] rfl (by (try simp only [List.map_toArray, List.map_cons, List.map_nil]); first | done | rfl | (simp only [List.length_drop, List.length_take]; rfl)) ?_; (with_reducible refine (vint_GetInt.calls kj13 _ _ y213 t216 t217 t218 _ ?side1 ?side2 A71.out).mono ?_); (case side1 => repeat (first | exact (Kd.R_reads' HO215.out).2.2 | (with_reducible refine Kd.C_alloc ?_ _) | (with_reducible refine Kd.C_drewN ?_ _) | (with_reducible refine Kd.C_drew ?_))); (case side2 => exact (Kd.R_reads' HO215.out).2.1); rintro e w94 ⟨rfl, hb⟩; refine ⟨_, rfl, ?_⟩; have n0_ := Aside0.mk (Kd.R_below (by (with_reducible repeat (first | apply Kd.R_alloc | apply Kd.R_drewN | apply Kd.R_drew)); exact HO_8.out) hb); have n1_ := Aside0.mk (Kd.R_below (by (with_reducible repeat (first | apply Kd.R_alloc | apply Kd.R_drewN | apply Kd.R_drew)); exact HO_9.out) hb); have n2_ := Aside0.mk (Kd.R_below (by (with_reducible repeat (first | apply Kd.R_alloc | apply Kd.R_drewN | apply Kd.R_drew)); exact HO199.out) hb); have n3_ := Aside0.mk (Kd.R_below (by (with_reducible repeat (first | apply Kd.R_alloc | apply Kd.R_drewN | apply Kd.R_drew)); exact HO215.out) hb); have n4_ := Aside0.mk (Kd.C_below (by repeat (first | (with_reducible exact HR193.out) | (with_reducible refine Kd.C_alloc ?_ _) | (with_reducible refine Kd.C_drewN ?_ _) | (with_reducible refine Kd.C_drew ?_) | exact HR193.out)) hb); have n5_ := Aside0.mk (Kd.C_below (by repeat (first | (with_reducible exact HR209.out) | (with_reducible refine Kd.C_alloc ?_ _) | (with_reducible refine Kd.C_drewN ?_ _) | (with_reducible refine Kd.C_drew ?_) | exact HR209.out)) hb); have n6_ := Aside0.mk (below_step (by repeat (first | (with_reducible first | exact HB.out | apply below_alloc | apply pw_below_drewN | apply below_drew1) | exact HB.out)) hb); clear HO_8; clear HO_9; clear HO199; clear HO215; clear HR193; clear HR209; clear HB; have HO_8 := n0_; have HO_9 := n1_; have HO199 := n2_; have HO215 := n3_; have HR193 := n4_; have HR209 := n5_; have HB := n6_; clear n0_ n1_ n2_ n3_ n4_ n5_ n6_; (try clear hb); (try clear hb2); (try clear hk); (try clear hi)) | (go_at_call 15; (with_reducible refine (vint_Len.calls kj13 a0 t219 _ A78.out).mono ?_); rintro e w95 ⟨rfl, hb⟩; have n0_ := Aside0.mk (Kd.R_below (by (with_reducible repeat (first | apply Kd.R_alloc | apply Kd.R_drewN | apply Kd.R_drew)); exact HO_8.out) hb); have n1_ := Aside0.mk (Kd.R_below (by (with_reducible repeat (first | apply Kd.R_alloc | apply Kd.R_drewN | apply Kd.R_drew)); exact HO_9.out) hb); have n2_ := Aside0.mk (Kd.R_below (by (with_reducible repeat (first | apply Kd.R_alloc | apply Kd.R_drewN | apply Kd.R_drew)); exact HO199.out) hb); have n3_ := Aside0.mk (Kd.R_below (by (with_reducible repeat (first | apply Kd.R_alloc | apply Kd.R_drewN | apply Kd.R_drew)); exact HO215.out) hb); have n4_ := Aside0.mk (Kd.C_below (by repeat (first | (with_reducible exact HR193.out) | (with_reducible refine Kd.C_alloc ?_ _) | (with_reducible refine Kd.C_drewN ?_ _) | (with_reducible refine Kd.C_drew ?_) | exact HR193.out)) hb); have n5_ := Aside0.mk (Kd.C_below (by repeat (first | (with_reducible exact HR209.out) | (with_reducible refine Kd.C_alloc ?_ _) | (with_reducible refine Kd.C_drewN ?_ _) | (with_reducible refine Kd.C_drew ?_) | exact HR209.out)) hb); have n6_ := Aside0.mk (below_step (by repeat (first | (with_reducible first | exact HB.out | apply below_alloc | apply pw_below_drewN | apply below_drew1) | exact HB.out)) hb); clear HO_8; clear HO_9; clear HO199; clear HO215; clear HR193; clear HR209; clear HB; have HO_8 := n0_; have HO_9 := n1_; have HO199 := n2_; have HO215 := n3_; have HR193 := n4_; have HR209 := n5_; have HB := n6_; clear n0_ n1_ n2_ n3_ n4_ n5_ n6_; (try clear hb); (try clear hb2); (try clear hk); (try clear hi)))
                                go_ret
                                exact ⟨by first | rfl | (simp [errW_none, errW_some] <;> rfl) | (simp [*, errW_none, errW_some] <;> rfl), by repeat (first | (with_reducible first | exact HB.out | apply below_alloc | apply pw_below_drewN | apply below_drew1) | exact HB.out)⟩
                              · rw [if_neg c77] at H
                                exact absurd ((Option.some.inj H).trans Hr) (by decide)
                            · rw [if_neg c76] at H
                              exact absurd ((Option.some.inj H).trans Hr) (by decide)
                          · rw [if_neg c75] at H
                            exact absurd ((Option.some.inj H).trans Hr) (by decide)
                        · rw [if_neg c74] at H
                          exact absurd ((Option.some.inj H).trans Hr) (by decide)
                      · rw [if_neg c73] at H
                        exact absurd ((Option.some.inj H).trans Hr) (by decide)
                    · rw [if_neg c72] at H
                      exact absurd ((Option.some.inj H).trans Hr) (by decide)
                  · rw [if_neg c70] at H
                    exact absurd H (by simp)
                · rw [if_neg c69] at H
                  exact absurd H (by simp)
              · rw [if_neg c68] at H
                exact absurd H (by simp)
            · rw [if_neg c65] at H
              exact absurd H (by simp)
          · rw [if_neg c64] at H
            exact absurd H (by simp)
        · rw [if_neg c63] at H
          exact absurd H (by simp)
      · rw [if_neg c62] at H
        exact absurd H (by simp)
 }
 {
 rw [if_neg c9] at H
 exact absurd H (by simp)
 }
 }
 {
 rw [if_neg c8] at H
 exact absurd H (by simp)
 }
 }
 {
 rw [if_neg c7] at H
 exact absurd H (by simp)
 }
 }
 {
 rw [if_neg c6] at H
 exact absurd H (by simp)
 }
 }
 {
 replace c5 := Bool.eq_false_iff.mpr c5
 subst c5
 have H1 : (some false) = some r := by rw [if_neg (show ¬ (false = true) by decide)] at H; exact H
 exact absurd ((Option.some.inj H1).trans Hr) (by decide)
 }

/-- THE ONE PURE STATEMENT of ferrulelaw4_VintPuts: yours. -/
def ferrulelaw4_VintPuts.Pure : Prop := ∀ (a0 : Int) (l1 : List Int) (l2 : List Int), (Lit.int .u64 a0).wf = true → l1.length ≤ maxLen → l1.length * 1 ≤ 140737488351232 → (∀ x ∈ l1, (Lit.int .u8 x).wf = true) → l2.length ≤ maxLen → l2.length * 1 ≤ 140737488351232 → (∀ x ∈ l2, (Lit.int .u8 x).wf = true) → ∃ k, ferrulelaw4_VintPuts.f k a0 l1 l2 = some true
theorem ferrulelaw4_VintPuts.walk (P : ferrulelaw4_VintPuts.Pure) (a0 : Int) (a1 : Option Addr) (len1 cap1 : Nat) (z1 : List Int) (a2 : Option Addr) (len2 cap2 : Nat) (z2 : List Int) (w : World) (w0 : (Lit.int .u64 a0).wf = true) (w1 : (a1 = none ∧ len1 = 0 ∧ cap1 = 0 ∧ z1 = []) ∨ ∃ x, a1 = some x ∧ len1 ≤ cap1 ∧ cap1 ≤ maxLen ∧ z1.length = cap1 ∧ (∀ i, i < z1.length → w.cell? (x.add i) = some (.int .u8 (z1.getD i 0))) ∧ ∀ n ∈ z1, (Lit.int .u8 n).wf = true) (y1 : len1 * 1 ≤ 140737488351232) (w2 : (a2 = none ∧ len2 = 0 ∧ cap2 = 0 ∧ z2 = []) ∨ ∃ x, a2 = some x ∧ len2 ≤ cap2 ∧ cap2 ≤ maxLen ∧ z2.length = cap2 ∧ (∀ i, i < z2.length → w.cell? (x.add i) = some (.int .u8 (z2.getD i 0))) ∧ ∀ n ∈ z2, (Lit.int .u8 n).wf = true) (y2 : len2 * 1 ≤ 140737488351232) :
    Calls Try.prog 4 #[.int .u64 a0, .slice a1 len1 cap1, .slice a2 len2 cap2] w fun e w' => e = .returned (.bool true) ∧ Below w.heap.size w w' := by
  obtain ⟨l1, rfl, hr1, hm1, hw1, hc1⟩ := ReadsInt.ofRowC w1
  obtain ⟨l2, rfl, hr2, hm2, hw2, hc2⟩ := ReadsInt.ofRowC w2
  obtain ⟨k, h⟩ := P a0 l1 l2 w0 hm1 y1 hw1 hm2 y2 hw2
  refine (ferrulelaw4_VintPuts.calls k a0 _ _ l1 _ _ l2 true w (Kd.C_of_reads (d := (0 : Int)) (h1 := fun _ => rfl) hr1) hc1 (Kd.C_of_reads (d := (0 : Int)) (h1 := fun _ => rfl) hr2) hc2 rfl h).mono ?_
  rintro e w' ⟨rfl, hd⟩
  exact ⟨rfl, hd⟩

end Go.Proofs.Ytdgjcgofghacjaa.PVintPuts
