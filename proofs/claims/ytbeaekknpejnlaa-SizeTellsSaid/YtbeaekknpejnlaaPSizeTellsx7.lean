-- By a program of this session (NOTES.md). Lean checks it.
import Derived.Test.YtbeaekknpejnlaaPSizeTellsx0
import Derived.Test.YtbeaekknpejnlaaPSizeTellsx6
namespace Go.Proofs.Ytbeaekknpejnlaa.PSizeTells
open Go.RowKit Go.Proofs.YtbeaekknpejnlaaW.PrintWords Go.Proofs.YtbeaekknpejnlaaW.PrintLast Go.Proofs.YtbeaekknpejnlaaW.PrintMore
attribute [local go_sem] max2_int min2_int max_two min_two max_three min_three max_four min_four   -- for this text's walks alone
set_option linter.unusedVariables false
set_option linter.unusedSimpArgs false

attribute [local go_sem] sc_drewN
/-! ### ferruleref16_Of: function 15 -/
def ferruleref16_Of.j0 : Nat → Int → Int → Int → Int → Int → Int → Int → Bool → Int → Int → Int → Int → Int → Int → Int → Int → Int → Int → Int → Option (Int × Int × Int × Int × Int × Int × Int × Int × Int × Int × Int)
  | 0, _, _, _, _, _, _, _, _, _, _, _, _, _, _, _, _, _, _, _ => none
  | k + 1, x4, x239000, x239001, x239002, x239003, x239004, x239005, x239006, x241000, x241001, x241002, x241003, x241004, x241005, x241006, x241007, x241008, x241009, x241010 => (ferruleref16_l.f k (wrap64 ((wrap64 (2 * x239002)) + 1))).bind fun t247 => ((ferruleref16_l.f k x239002).bind fun t248 => ((ferruleref16_l.f k (wrap64 ((wrap64 (2 * x4)) + 3))).bind fun t249 => ((ferruleref16_l.f k x241002).bind fun t250 => ((ferruleref12_Pages.f k (wrap64 (t250 + (wrap64 (x241002 * (wrap64 ((wrap64 (t247 + t248)) + t249))))))).bind fun t251 => ((ferruleref16_Up.f (wrap64 (x241001 + (wrap64 ((wrap64 ((wrap64 (2 * t251)) + x239001)) + x241001)))) x239001).bind fun t252 => ((ferruleref16_Up.f x241001 x239001).bind fun t253 => ((ferruleref16_Up.f x239002 x239005).bind fun t254 => ((ferruleref16_Up.f x239002 x239001).bind fun t255 => (some (x241000, x241001, x241002, wrap64 ((wrap64 (t247 + t248)) + t249), t251, wrap64 ((wrap64 ((wrap64 (2 * t251)) + x239001)) + x241001), t252, wrap64 ((wrap64 (t252 + t253)) + 3), t254, wrap64 ((wrap64 (t255 + 8)) + (wrap64 (4 * x239003))), wrap64 (x239000 + (wrap64 ((wrap64 (2 * x239001)) * (wrap64 ((wrap64 (t252 + 2)) + x239003)))))))))))))))
def ferruleref16_Of.f (k : Nat) (a0_0 : Int) (a0_1 : Int) (a0_2 : Int) (a0_3 : Int) (a0_4 : Int) (a0_5 : Int) (a0_6 : Bool) : Option (Int × Int × Int × Int × Int × Int × Int × Int × Int × Int × Int) := (ferruleref16_l.f k a0_2).bind fun t241 => ((ferruleref16_l.f k (wrap64 ((wrap64 (2 * (wrap64 (a0_0 * a0_1)))) + 1))).bind fun t242 => ((ferruleref16_l.f k a0_4).bind fun t243 => ((ferruleref12_Pages.f k (wrap64 (t243 + (wrap64 (a0_4 * (wrap64 ((wrap64 (2 * t241)) + t242))))))).bind fun t244 => ((ferruleref16_Up.f a0_2 a0_1).bind fun t245 => (if t245 > a0_1 then ((ferruleref16_Up.f a0_2 a0_1).bind fun t246 => (ferruleref16_Of.j0 k (wrap64 (a0_0 * a0_1)) a0_0 a0_1 a0_2 a0_3 a0_4 a0_5 a0_6 (wrap64 ((wrap64 (2 * t241)) + t242)) t244 (wrap64 ((wrap64 (4 + a0_3)) + t246)) 0 0 0 0 0 0 0 0)) else (ferruleref16_Of.j0 k (wrap64 (a0_0 * a0_1)) a0_0 a0_1 a0_2 a0_3 a0_4 a0_5 a0_6 (wrap64 ((wrap64 (2 * t241)) + t242)) t244 (wrap64 ((wrap64 (4 + a0_3)) + a0_1)) 0 0 0 0 0 0 0 0))))))
theorem ferruleref16_Of.mono_l : ∀ k, (∀ y0 y1 y2 y3 y4 y5 y6 y7 y8 y9 y10 y11 y12 y13 y14 y15 y16 y17 y18, LeO (ferruleref16_Of.j0 k y0 y1 y2 y3 y4 y5 y6 y7 y8 y9 y10 y11 y12 y13 y14 y15 y16 y17 y18) (ferruleref16_Of.j0 (k + 1) y0 y1 y2 y3 y4 y5 y6 y7 y8 y9 y10 y11 y12 y13 y14 y15 y16 y17 y18))
  | 0 => fun _ _ _ _ _ _ _ _ _ _ _ _ _ _ _ _ _ _ _ r h => by simp [ferruleref16_Of.j0] at h
  | k + 1 => by
    have ih0 := ferruleref16_Of.mono_l k
    · intro y0 y1 y2 y3 y4 y5 y6 y7 y8 y9 y10 y11 y12 y13 y14 y15 y16 y17 y18
      unfold ferruleref16_Of.j0
      repeat' first
      | (with_reducible exact ih0 _ _ _ _ _ _ _ _ _ _ _ _ _ _ _ _ _ _ _)
      | (with_reducible exact ferruleref12_Pages.mono _ _)
      | (with_reducible exact ferruleref16_l.mono _ _)
      | (with_reducible exact LeO.refl _)
      | (with_reducible exact LeO.none _)
      | (with_reducible refine LeO.ite ?_ ?_)
      | (with_reducible refine LeO.bind ?_ (fun _ => ?_))
      | exact ih0 _ _ _ _ _ _ _ _ _ _ _ _ _ _ _ _ _ _ _
      | exact ferruleref12_Pages.mono _ _
      | exact ferruleref16_l.mono _ _
      | exact LeO.none _
      | refine LeO.ite ?_ ?_
      | refine LeO.bind ?_ (fun _ => ?_)
theorem ferruleref16_Of.mono : ∀ a0 a1 a2 a3 a4 a5 a6 k, LeO (ferruleref16_Of.f k a0 a1 a2 a3 a4 a5 a6) (ferruleref16_Of.f (k + 1) a0 a1 a2 a3 a4 a5 a6) := by
  intro a0 a1 a2 a3 a4 a5 a6 k
  have ih0 := ferruleref16_Of.mono_l k
  unfold ferruleref16_Of.f
  repeat' first
      | (with_reducible exact ih0 _ _ _ _ _ _ _ _ _ _ _ _ _ _ _ _ _ _ _)
      | (with_reducible exact ferruleref12_Pages.mono _ _)
      | (with_reducible exact ferruleref16_l.mono _ _)
      | (with_reducible exact LeO.refl _)
      | (with_reducible exact LeO.none _)
      | (with_reducible refine LeO.ite ?_ ?_)
      | (with_reducible refine LeO.bind ?_ (fun _ => ?_))
      | exact ih0 _ _ _ _ _ _ _ _ _ _ _ _ _ _ _ _ _ _ _
      | exact ferruleref12_Pages.mono _ _
      | exact ferruleref16_l.mono _ _
      | exact LeO.none _
      | refine LeO.ite ?_ ?_
      | refine LeO.bind ?_ (fun _ => ?_)
def ferruleref16_Of.T4 : Bool × List (List Nat × List Nat) := (true, [([], []), ([0], [0]), ([1], [1]), ([], []), ([3], [3]), ([], []), ([5], [5]), ([4, 6], [4, 6]), ([2, 7], [2, 7]), ([8, 2], [8]), ([0, 1, 2, 3, 4, 5, 6, 7, 8, 9], []), ([10, 9, 9, 0, 1, 2, 3, 4, 5, 6, 7, 8, 9], [9, 10])])
def ferruleref16_Of.B4 : List Nat := [0, 1, 3, 0, 8, 0, 32, 120, 255, 511, 1023, 2047]
theorem ferruleref16_Of.tab4 : rtab .any (opsOf Try.f15 4) = ferruleref16_Of.T4 := by kernel_rfl
theorem ferruleref16_Of.bits4 : waitsOk ferruleref16_Of.T4.2 ferruleref16_Of.B4 = true := by kernel_rfl
def ferruleref16_Of.T6 : Bool × List (List Nat × List Nat) := (true, [([], []), ([0], [0]), ([], []), ([2], [2]), ([1, 3], [1, 3]), ([], []), ([5], [5]), ([4, 6], [4, 6])])
def ferruleref16_Of.B6 : List Nat := [0, 1, 0, 4, 15, 0, 32, 127]
theorem ferruleref16_Of.tab6 : rtab .any (opsOf Try.f15 6) = ferruleref16_Of.T6 := by kernel_rfl
theorem ferruleref16_Of.bits6 : waitsOk ferruleref16_Of.T6.2 ferruleref16_Of.B6 = true := by kernel_rfl
def ferruleref16_Of.T7 : Bool × List (List Nat × List Nat) := (true, [([], []), ([0], [0]), ([1], [1]), ([], []), ([3], [3]), ([], []), ([5], [5]), ([4, 6], [4, 6]), ([2, 7], [2, 7]), ([0, 1, 2, 3, 4, 5, 6, 7, 8], []), ([9, 8, 7, 0, 1, 2, 3, 4, 5, 6, 7, 8], [8, 9])])
def ferruleref16_Of.B7 : List Nat := [0, 1, 3, 0, 8, 0, 32, 120, 255, 511, 1023]
theorem ferruleref16_Of.tab7 : rtab .any (opsOf Try.f15 7) = ferruleref16_Of.T7 := by kernel_rfl
theorem ferruleref16_Of.bits7 : waitsOk ferruleref16_Of.T7.2 ferruleref16_Of.B7 = true := by kernel_rfl
def ferruleref16_Of.T8 : Bool × List (List Nat × List Nat) := (true, [([], []), ([0], [0]), ([1], [1]), ([2], [2]), ([3], [3]), ([], []), ([5], [5]), ([6, 4], [6]), ([4, 7], [4, 7]), ([], []), ([9], [9]), ([10], [10]), ([11, 7], [11]), ([8, 12], [8, 12]), ([0, 1, 2, 3, 4, 5, 6, 7, 8, 9, 10, 11, 12, 13], []), ([14, 13, 12, 0, 1, 2, 3, 4, 5, 6, 7, 8, 9, 10, 11, 12, 13], [13, 14])])
def ferruleref16_Of.B8 : List Nat := [0, 1, 3, 7, 15, 0, 32, 127, 255, 0, 512, 1536, 3839, 8191, 16383, 32767]
theorem ferruleref16_Of.tab8 : rtab .any (opsOf Try.f15 8) = ferruleref16_Of.T8 := by kernel_rfl
theorem ferruleref16_Of.bits8 : waitsOk ferruleref16_Of.T8.2 ferruleref16_Of.B8 = true := by kernel_rfl
def ferruleref16_Of.T9 : Bool × List (List Nat × List Nat) := (true, [([], []), ([0], [0]), ([1], [1]), ([], []), ([3], [3]), ([], []), ([5], [5]), ([4, 6], [4, 6]), ([2, 7], [2, 7]), ([8, 2], [8]), ([0, 1, 2, 3, 4, 5, 6, 7, 8, 9], []), ([10, 9, 9, 0, 1, 2, 3, 4, 5, 6, 7, 8, 9], [9, 10])])
def ferruleref16_Of.B9 : List Nat := [0, 1, 3, 0, 8, 0, 32, 120, 255, 511, 1023, 2047]
theorem ferruleref16_Of.tab9 : rtab .any (opsOf Try.f15 9) = ferruleref16_Of.T9 := by kernel_rfl
theorem ferruleref16_Of.bits9 : waitsOk ferruleref16_Of.T9.2 ferruleref16_Of.B9 = true := by kernel_rfl
def ferruleref16_Of.T12 : Bool × List (List Nat × List Nat) := (true, [([], []), ([0], [0]), ([], []), ([2], [2]), ([], []), ([4], [4]), ([3, 5], [3, 5]), ([1, 6], [1, 6]), ([7], [7]), ([0, 1, 2, 3, 4, 5, 6, 7, 8], []), ([9, 8, 6, 0, 1, 2, 3, 4, 5, 6, 7, 8], [8, 9])])
def ferruleref16_Of.B12 : List Nat := [0, 1, 0, 4, 0, 16, 60, 127, 255, 511, 1023]
theorem ferruleref16_Of.tab12 : rtab .any (opsOf Try.f15 12) = ferruleref16_Of.T12 := by kernel_rfl
theorem ferruleref16_Of.bits12 : waitsOk ferruleref16_Of.T12.2 ferruleref16_Of.B12 = true := by kernel_rfl
def ferruleref16_Of.T14 : Bool × List (List Nat × List Nat) := (true, [([], []), ([0], [0]), ([], []), ([2], [2]), ([1, 3], [1, 3]), ([4], [4]), ([], []), ([6], [6]), ([7], [7]), ([5, 8], [5, 8]), ([0, 1, 2, 3, 4, 5, 6, 7, 8, 9], []), ([10, 9, 4, 0, 1, 2, 3, 4, 5, 6, 7, 8, 9], [9, 10])])
def ferruleref16_Of.B14 : List Nat := [0, 1, 0, 4, 15, 31, 0, 64, 192, 511, 1023, 2047]
theorem ferruleref16_Of.tab14 : rtab .any (opsOf Try.f15 14) = ferruleref16_Of.T14 := by kernel_rfl
theorem ferruleref16_Of.bits14 : waitsOk ferruleref16_Of.T14.2 ferruleref16_Of.B14 = true := by kernel_rfl
set_option maxHeartbeats 8000000 in
set_option maxRecDepth 100000 in
theorem ferruleref16_Of.calls (k : Nat) (a0_0 : Int) (a0_1 : Int) (a0_2 : Int) (a0_3 : Int) (a0_4 : Int) (a0_5 : Int) (a0_6 : Bool) (r1 : Int) (r2 : Int) (r3 : Int) (r4 : Int) (r5 : Int) (r6 : Int) (r7 : Int) (r8 : Int) (r9 : Int) (r10 : Int) (r11 : Int) (w : World) (h : ferruleref16_Of.f k a0_0 a0_1 a0_2 a0_3 a0_4 a0_5 a0_6 = some (r1, r2, r3, r4, r5, r6, r7, r8, r9, r10, r11)) :
    Calls Try.prog 15 #[.agg #[.int .i64 a0_0, .int .i64 a0_1, .int .i64 a0_2, .int .i64 a0_3, .int .i64 a0_4, .int .i64 a0_5, .bool a0_6]] w fun e w' => e = .returned (.agg #[.int .i64 r1, .int .i64 r2, .int .i64 r3, .int .i64 r4, .int .i64 r5, .int .i64 r6, .int .i64 r7, .int .i64 r8, .int .i64 r9, .int .i64 r10, .int .i64 r11]) ∧ Below w.heap.size w w' := by
 have hu29 := Try.underlying29
 have hu35 := Try.underlying35
 have HB := Aside0.mk (Below.refl w.heap.size w)
 have H : ((ferruleref16_l.f k a0_2).bind fun t241 => ((ferruleref16_l.f k (wrap64 ((wrap64 (2 * (wrap64 (a0_0 * a0_1)))) + 1))).bind fun t242 => ((ferruleref16_l.f k a0_4).bind fun t243 => ((ferruleref12_Pages.f k (wrap64 (t243 + (wrap64 (a0_4 * (wrap64 ((wrap64 (2 * t241)) + t242))))))).bind fun t244 => ((ferruleref16_Up.f a0_2 a0_1).bind fun t245 => (if t245 > a0_1 then ((ferruleref16_Up.f a0_2 a0_1).bind fun t246 => (ferruleref16_Of.j0 k (wrap64 (a0_0 * a0_1)) a0_0 a0_1 a0_2 a0_3 a0_4 a0_5 a0_6 (wrap64 ((wrap64 (2 * t241)) + t242)) t244 (wrap64 ((wrap64 (4 + a0_3)) + t246)) 0 0 0 0 0 0 0 0)) else (ferruleref16_Of.j0 k (wrap64 (a0_0 * a0_1)) a0_0 a0_1 a0_2 a0_3 a0_4 a0_5 a0_6 (wrap64 ((wrap64 (2 * t241)) + t242)) t244 (wrap64 ((wrap64 (4 + a0_3)) + a0_1)) 0 0 0 0 0 0 0 0))))))) = some (r1, r2, r3, r4, r5, r6, r7, r8, r9, r10, r11) := h
 clear h
 replace H := Option.bind_eq_some_iff.mp H
 obtain ⟨t241, A20, H⟩ := H
 replace H : ((ferruleref16_l.f k (wrap64 ((wrap64 (2 * (wrap64 (a0_0 * a0_1)))) + 1))).bind fun t242 => ((ferruleref16_l.f k a0_4).bind fun t243 => ((ferruleref12_Pages.f k (wrap64 (t243 + (wrap64 (a0_4 * (wrap64 ((wrap64 (2 * t241)) + t242))))))).bind fun t244 => ((ferruleref16_Up.f a0_2 a0_1).bind fun t245 => (if t245 > a0_1 then ((ferruleref16_Up.f a0_2 a0_1).bind fun t246 => (ferruleref16_Of.j0 k (wrap64 (a0_0 * a0_1)) a0_0 a0_1 a0_2 a0_3 a0_4 a0_5 a0_6 (wrap64 ((wrap64 (2 * t241)) + t242)) t244 (wrap64 ((wrap64 (4 + a0_3)) + t246)) 0 0 0 0 0 0 0 0)) else (ferruleref16_Of.j0 k (wrap64 (a0_0 * a0_1)) a0_0 a0_1 a0_2 a0_3 a0_4 a0_5 a0_6 (wrap64 ((wrap64 (2 * t241)) + t242)) t244 (wrap64 ((wrap64 (4 + a0_3)) + a0_1)) 0 0 0 0 0 0 0 0)))))) = some (r1, r2, r3, r4, r5, r6, r7, r8, r9, r10, r11) := H
 have A2 := Aside0.mk A20
 clear A20
 replace H := Option.bind_eq_some_iff.mp H
 obtain ⟨t242, A30, H⟩ := H
 replace H : ((ferruleref16_l.f k a0_4).bind fun t243 => ((ferruleref12_Pages.f k (wrap64 (t243 + (wrap64 (a0_4 * (wrap64 ((wrap64 (2 * t241)) + t242))))))).bind fun t244 => ((ferruleref16_Up.f a0_2 a0_1).bind fun t245 => (if t245 > a0_1 then ((ferruleref16_Up.f a0_2 a0_1).bind fun t246 => (ferruleref16_Of.j0 k (wrap64 (a0_0 * a0_1)) a0_0 a0_1 a0_2 a0_3 a0_4 a0_5 a0_6 (wrap64 ((wrap64 (2 * t241)) + t242)) t244 (wrap64 ((wrap64 (4 + a0_3)) + t246)) 0 0 0 0 0 0 0 0)) else (ferruleref16_Of.j0 k (wrap64 (a0_0 * a0_1)) a0_0 a0_1 a0_2 a0_3 a0_4 a0_5 a0_6 (wrap64 ((wrap64 (2 * t241)) + t242)) t244 (wrap64 ((wrap64 (4 + a0_3)) + a0_1)) 0 0 0 0 0 0 0 0))))) = some (r1, r2, r3, r4, r5, r6, r7, r8, r9, r10, r11) := H
 have A3 := Aside0.mk A30
 clear A30
 replace H := Option.bind_eq_some_iff.mp H
 obtain ⟨t243, A40, H⟩ := H
 replace H : ((ferruleref12_Pages.f k (wrap64 (t243 + (wrap64 (a0_4 * (wrap64 ((wrap64 (2 * t241)) + t242))))))).bind fun t244 => ((ferruleref16_Up.f a0_2 a0_1).bind fun t245 => (if t245 > a0_1 then ((ferruleref16_Up.f a0_2 a0_1).bind fun t246 => (ferruleref16_Of.j0 k (wrap64 (a0_0 * a0_1)) a0_0 a0_1 a0_2 a0_3 a0_4 a0_5 a0_6 (wrap64 ((wrap64 (2 * t241)) + t242)) t244 (wrap64 ((wrap64 (4 + a0_3)) + t246)) 0 0 0 0 0 0 0 0)) else (ferruleref16_Of.j0 k (wrap64 (a0_0 * a0_1)) a0_0 a0_1 a0_2 a0_3 a0_4 a0_5 a0_6 (wrap64 ((wrap64 (2 * t241)) + t242)) t244 (wrap64 ((wrap64 (4 + a0_3)) + a0_1)) 0 0 0 0 0 0 0 0)))) = some (r1, r2, r3, r4, r5, r6, r7, r8, r9, r10, r11) := H
 have A4 := Aside0.mk A40
 clear A40
 replace H := Option.bind_eq_some_iff.mp H
 obtain ⟨t244, A50, H⟩ := H
 replace H : ((ferruleref16_Up.f a0_2 a0_1).bind fun t245 => (if t245 > a0_1 then ((ferruleref16_Up.f a0_2 a0_1).bind fun t246 => (ferruleref16_Of.j0 k (wrap64 (a0_0 * a0_1)) a0_0 a0_1 a0_2 a0_3 a0_4 a0_5 a0_6 (wrap64 ((wrap64 (2 * t241)) + t242)) t244 (wrap64 ((wrap64 (4 + a0_3)) + t246)) 0 0 0 0 0 0 0 0)) else (ferruleref16_Of.j0 k (wrap64 (a0_0 * a0_1)) a0_0 a0_1 a0_2 a0_3 a0_4 a0_5 a0_6 (wrap64 ((wrap64 (2 * t241)) + t242)) t244 (wrap64 ((wrap64 (4 + a0_3)) + a0_1)) 0 0 0 0 0 0 0 0))) = some (r1, r2, r3, r4, r5, r6, r7, r8, r9, r10, r11) := H
 have A5 := Aside0.mk A50
 clear A50
 replace H := Option.bind_eq_some_iff.mp H
 obtain ⟨t245, A60, H⟩ := H
 replace H : (if t245 > a0_1 then ((ferruleref16_Up.f a0_2 a0_1).bind fun t246 => (ferruleref16_Of.j0 k (wrap64 (a0_0 * a0_1)) a0_0 a0_1 a0_2 a0_3 a0_4 a0_5 a0_6 (wrap64 ((wrap64 (2 * t241)) + t242)) t244 (wrap64 ((wrap64 (4 + a0_3)) + t246)) 0 0 0 0 0 0 0 0)) else (ferruleref16_Of.j0 k (wrap64 (a0_0 * a0_1)) a0_0 a0_1 a0_2 a0_3 a0_4 a0_5 a0_6 (wrap64 ((wrap64 (2 * t241)) + t242)) t244 (wrap64 ((wrap64 (4 + a0_3)) + a0_1)) 0 0 0 0 0 0 0 0)) = some (r1, r2, r3, r4, r5, r6, r7, r8, r9, r10, r11) := H
 have A6 := Aside0.mk A60
 clear A60
 have HC7 := Aside0.mk H
 clear H
 go_enter Try.func15, Try.ntmps15
 try go_wp2_with (first | ((with_reducible refine gate_dst (N := 1) rfl ?_); refine box_event ?hg (N := 1) ?hd (cs := #[.int .i64 a0_0, .int .i64 a0_1, .int .i64 a0_2, .int .i64 a0_3, .int .i64 a0_4, .int .i64 a0_5, .bool a0_6]) (t := 29) ?hr ?_; (case hd => rfl); (case hg => rfl); (case hr => first | (go_simp; done) | (go_simp; rfl)); intro gb238 hg w8 hbox hb; have n0_ := Aside0.mk (below_step (by repeat (first | (with_reducible first | exact HB.out | apply below_alloc | apply pw_below_drewN | apply below_drew1) | exact HB.out)) hb); have n1_ := Aside0.mk (hbox); have n2_ := Aside0.mk ((by rw [hg]; exact (below_size (by repeat (first | (with_reducible first | exact HB.out | apply below_alloc | apply pw_below_drewN | apply below_drew1) | exact HB.out))) : w.heap.size ≤ gb238)); have n3_ := Aside0.mk ((by rw [hg]; exact (below_size (by repeat (first | (with_reducible first | exact HB.out | apply below_alloc | apply pw_below_drewN | apply below_drew1) | exact HB.out))) : w.heap.size ≤ gb238)); clear HB; have HB := n0_; have BK238 := n1_; have GW238 := n2_; have GE238 := n3_; clear n0_ n1_ n2_ n3_; clear hb hbox hg) | ((with_reducible refine gate_dst (N := 2) rfl ?_); refine box_event ?hg (N := 2) ?hd (cs := #[.int .i64 0, .int .i64 0, .int .i64 0, .int .i64 0, .int .i64 0, .int .i64 0, .int .i64 0, .int .i64 0, .int .i64 0, .int .i64 0, .int .i64 0]) (t := 35) ?hr ?_; (case hd => rfl); (case hg => rfl); (case hr => first | (go_simp; done) | (go_simp; rfl)); intro gb239 hg w9 hbox hb; have n0_ := Aside0.mk (blk_below (g := gb238) (o := .cells #[.int .i64 a0_0, .int .i64 a0_1, .int .i64 a0_2, .int .i64 a0_3, .int .i64 a0_4, .int .i64 a0_5, .bool a0_6] 29 (0, 0)) (by (with_reducible repeat (first | refine blk_drewN ?_ _ | refine blk_drew ?_ | refine blk_alloc ?_ _)); exact BK238.out) hb); have n1_ := Aside0.mk (below_step (by repeat (first | (with_reducible first | exact HB.out | apply below_alloc | apply pw_below_drewN | apply below_drew1 | refine below_set ?_ GE238.out) | exact HB.out)) hb); have n2_ := Aside0.mk (hbox); have n3_ := Aside0.mk ((by rw [hg]; exact (below_size (by repeat (first | (with_reducible first | exact HB.out | apply below_alloc | apply pw_below_drewN | apply below_drew1 | refine below_set ?_ GE238.out) | exact HB.out))) : w.heap.size ≤ gb239)); have n4_ := Aside0.mk ((by rw [hg]; exact (below_size (by repeat (first | (with_reducible first | exact HB.out | apply below_alloc | apply pw_below_drewN | apply below_drew1 | refine below_set ?_ GE238.out) | exact HB.out))) : w.heap.size ≤ gb239)); have n5_ := Aside0.mk ((by rw [hg]; exact Nat.ne_of_lt (blk_lt (g := gb238) (o := .cells #[.int .i64 a0_0, .int .i64 a0_1, .int .i64 a0_2, .int .i64 a0_3, .int .i64 a0_4, .int .i64 a0_5, .bool a0_6] 29 (0, 0)) (by (with_reducible repeat (first | refine blk_drewN ?_ _ | refine blk_drew ?_ | refine blk_alloc ?_ _)); exact BK238.out)) : gb238 ≠ gb239)); have n6_ := Aside0.mk ((by rw [hg]; exact Nat.ne_of_gt (blk_lt (g := gb238) (o := .cells #[.int .i64 a0_0, .int .i64 a0_1, .int .i64 a0_2, .int .i64 a0_3, .int .i64 a0_4, .int .i64 a0_5, .bool a0_6] 29 (0, 0)) (by (with_reducible repeat (first | refine blk_drewN ?_ _ | refine blk_drew ?_ | refine blk_alloc ?_ _)); exact BK238.out)) : gb239 ≠ gb238)); clear BK238; clear HB; have BK238 := n0_; have HB := n1_; have BK239 := n2_; have GW239 := n3_; have GE239 := n4_; have NB238_239 := n5_; have NB239_238 := n6_; clear n0_ n1_ n2_ n3_ n4_ n5_ n6_; clear hb hbox hg) | ((with_reducible refine gate_dst (N := 3) rfl ?_); refine box_event ?hg (N := 3) ?hd (cs := #[.int .i64 0, .int .i64 0, .int .i64 0, .int .i64 0, .int .i64 0, .int .i64 0, .int .i64 0, .int .i64 0, .int .i64 0, .int .i64 0, .int .i64 0]) (t := 35) ?hr ?_; (case hd => rfl); (case hg => rfl); (case hr => first | (go_simp; done) | (go_simp; rfl)); intro gb240 hg w10 hbox hb; have n0_ := Aside0.mk (blk_below (g := gb238) (o := .cells #[.int .i64 a0_0, .int .i64 a0_1, .int .i64 a0_2, .int .i64 a0_3, .int .i64 a0_4, .int .i64 a0_5, .bool a0_6] 29 (0, 0)) (by (with_reducible repeat (first | refine blk_drewN ?_ _ | refine blk_drew ?_ | refine blk_alloc ?_ _)); exact BK238.out) hb); have n1_ := Aside0.mk (blk_below (g := gb239) (o := .cells #[.int .i64 0, .int .i64 0, .int .i64 0, .int .i64 0, .int .i64 0, .int .i64 0, .int .i64 0, .int .i64 0, .int .i64 0, .int .i64 0, .int .i64 0] 35 (0, 0)) (by (with_reducible repeat (first | refine blk_drewN ?_ _ | refine blk_drew ?_ | refine blk_alloc ?_ _)); exact BK239.out) hb); have n2_ := Aside0.mk (below_step (by repeat (first | (with_reducible first | exact HB.out | apply below_alloc | apply pw_below_drewN | apply below_drew1 | refine below_set ?_ GE238.out | refine below_set ?_ GE239.out) | exact HB.out)) hb); have n3_ := Aside0.mk (hbox); have n4_ := Aside0.mk ((by rw [hg]; exact (below_size (by repeat (first | (with_reducible first | exact HB.out | apply below_alloc | apply pw_below_drewN | apply below_drew1 | refine below_set ?_ GE238.out | refine below_set ?_ GE239.out) | exact HB.out))) : w.heap.size ≤ gb240)); have n5_ := Aside0.mk ((by rw [hg]; exact (below_size (by repeat (first | (with_reducible first | exact HB.out | apply below_alloc | apply pw_below_drewN | apply below_drew1 | refine below_set ?_ GE238.out | refine below_set ?_ GE239.out) | exact HB.out))) : w.heap.size ≤ gb240)); have n6_ := Aside0.mk ((by rw [hg]; exact Nat.ne_of_lt (blk_lt (g := gb238) (o := .cells #[.int .i64 a0_0, .int .i64 a0_1, .int .i64 a0_2, .int .i64 a0_3, .int .i64 a0_4, .int .i64 a0_5, .bool a0_6] 29 (0, 0)) (by (with_reducible repeat (first | refine blk_drewN ?_ _ | refine blk_drew ?_ | refine blk_alloc ?_ _)); exact BK238.out)) : gb238 ≠ gb240)); have n7_ := Aside0.mk ((by rw [hg]; exact Nat.ne_of_gt (blk_lt (g := gb238) (o := .cells #[.int .i64 a0_0, .int .i64 a0_1, .int .i64 a0_2, .int .i64 a0_3, .int .i64 a0_4, .int .i64 a0_5, .bool a0_6] 29 (0, 0)) (by (with_reducible repeat (first | refine blk_drewN ?_ _ | refine blk_drew ?_ | refine blk_alloc ?_ _)); exact BK238.out)) : gb240 ≠ gb238)); have n8_ := Aside0.mk ((by rw [hg]; exact Nat.ne_of_lt (blk_lt (g := gb239) (o := .cells #[.int .i64 0, .int .i64 0, .int .i64 0, .int .i64 0, .int .i64 0, .int .i64 0, .int .i64 0, .int .i64 0, .int .i64 0, .int .i64 0, .int .i64 0] 35 (0, 0)) (by (with_reducible repeat (first | refine blk_drewN ?_ _ | refine blk_drew ?_ | refine blk_alloc ?_ _)); exact BK239.out)) : gb239 ≠ gb240)); have n9_ := Aside0.mk ((by rw [hg]; exact Nat.ne_of_gt (blk_lt (g := gb239) (o := .cells #[.int .i64 0, .int .i64 0, .int .i64 0, .int .i64 0, .int .i64 0, .int .i64 0, .int .i64 0, .int .i64 0, .int .i64 0, .int .i64 0, .int .i64 0] 35 (0, 0)) (by (with_reducible repeat (first | refine blk_drewN ?_ _ | refine blk_drew ?_ | refine blk_alloc ?_ _)); exact BK239.out)) : gb240 ≠ gb239)); clear BK238; clear BK239; clear HB; have BK238 := n0_; have BK239 := n1_; have HB := n2_; have BK240 := n3_; have GW240 := n4_; have GE240 := n5_; have NB238_240 := n6_; have NB240_238 := n7_; have NB239_240 := n8_; have NB240_239 := n9_; clear n0_ n1_ n2_ n3_ n4_ n5_ n6_ n7_ n8_ n9_; clear hb hbox hg; have hnb11 := NB240_238.out; have hnc11 := NB238_240.out; have hnb12 := NB240_239.out; have hnc12 := NB239_240.out; have hcz13_0 : w10.cell? ⟨gb240, 0, none⟩ = some (.int .i64 0) := (blk_cell BK240.out 0).trans rfl; have hcz13_1 : w10.cell? ⟨gb240, 1, none⟩ = some (.int .i64 0) := (blk_cell BK240.out 1).trans rfl; have hcz13_2 : w10.cell? ⟨gb240, 2, none⟩ = some (.int .i64 0) := (blk_cell BK240.out 2).trans rfl; have hcz13_3 : w10.cell? ⟨gb240, 3, none⟩ = some (.int .i64 0) := (blk_cell BK240.out 3).trans rfl; have hcz13_4 : w10.cell? ⟨gb240, 4, none⟩ = some (.int .i64 0) := (blk_cell BK240.out 4).trans rfl; have hcz13_5 : w10.cell? ⟨gb240, 5, none⟩ = some (.int .i64 0) := (blk_cell BK240.out 5).trans rfl; have hcz13_6 : w10.cell? ⟨gb240, 6, none⟩ = some (.int .i64 0) := (blk_cell BK240.out 6).trans rfl; have hcz13_7 : w10.cell? ⟨gb240, 7, none⟩ = some (.int .i64 0) := (blk_cell BK240.out 7).trans rfl; have hcz13_8 : w10.cell? ⟨gb240, 8, none⟩ = some (.int .i64 0) := (blk_cell BK240.out 8).trans rfl; have hcz13_9 : w10.cell? ⟨gb240, 9, none⟩ = some (.int .i64 0) := (blk_cell BK240.out 9).trans rfl; have hcz13_10 : w10.cell? ⟨gb240, 10, none⟩ = some (.int .i64 0) := (blk_cell BK240.out 10).trans rfl; have hfz13_0 := blk_frozen BK240.out 0; have hfz13_1 := blk_frozen BK240.out 1; have hfz13_2 := blk_frozen BK240.out 2; have hfz13_3 := blk_frozen BK240.out 3; have hfz13_4 := blk_frozen BK240.out 4; have hfz13_5 := blk_frozen BK240.out 5; have hfz13_6 := blk_frozen BK240.out 6; have hfz13_7 := blk_frozen BK240.out 7; have hfz13_8 := blk_frozen BK240.out 8; have hfz13_9 := blk_frozen BK240.out 9; have hfz13_10 := blk_frozen BK240.out 10; have hnb14 := NB238_239.out; have hnc14 := NB239_238.out; have hcz15_0 : w10.cell? ⟨gb238, 0, none⟩ = some (.int .i64 a0_0) := (blk_cell BK238.out 0).trans rfl; have hcz15_1 : w10.cell? ⟨gb238, 1, none⟩ = some (.int .i64 a0_1) := (blk_cell BK238.out 1).trans rfl; have hcz15_2 : w10.cell? ⟨gb238, 2, none⟩ = some (.int .i64 a0_2) := (blk_cell BK238.out 2).trans rfl; have hcz15_3 : w10.cell? ⟨gb238, 3, none⟩ = some (.int .i64 a0_3) := (blk_cell BK238.out 3).trans rfl; have hcz15_4 : w10.cell? ⟨gb238, 4, none⟩ = some (.int .i64 a0_4) := (blk_cell BK238.out 4).trans rfl; have hcz15_5 : w10.cell? ⟨gb238, 5, none⟩ = some (.int .i64 a0_5) := (blk_cell BK238.out 5).trans rfl; have hcz15_6 : w10.cell? ⟨gb238, 6, none⟩ = some (.bool a0_6) := (blk_cell BK238.out 6).trans rfl; have hfz15_0 := blk_frozen BK238.out 0; have hfz15_1 := blk_frozen BK238.out 1; have hfz15_2 := blk_frozen BK238.out 2; have hfz15_3 := blk_frozen BK238.out 3; have hfz15_4 := blk_frozen BK238.out 4; have hfz15_5 := blk_frozen BK238.out 5; have hfz15_6 := blk_frozen BK238.out 6) | ((with_reducible refine gate_callee (f := 25) rfl ?_); refine goesL_ (some 13) rfl rfl Try.func25 (by kernel_rfl) rfl #[.int .i64 a0_2] rfl (by (try simp only [List.map_toArray, List.map_cons, List.map_nil]); first | done | rfl | (simp only [List.length_drop, List.length_take]; rfl)) ?_; (with_reducible refine (ferruleref16_l.calls k a0_2 t241 _ A2.out).mono ?_); rintro e w16 ⟨rfl, hb⟩; refine ⟨_, rfl, ?_⟩; have n0_ := Aside0.mk (blk_below (g := gb238) (o := .cells #[.int .i64 a0_0, .int .i64 a0_1, .int .i64 a0_2, .int .i64 a0_3, .int .i64 a0_4, .int .i64 a0_5, .bool a0_6] 29 (0, 0)) (by (with_reducible repeat (first | refine blk_drewN ?_ _ | refine blk_drew ?_ | refine blk_alloc ?_ _)); refine blk_far ?_ NB238_240.out _; (with_reducible repeat (first | refine blk_drewN ?_ _ | refine blk_drew ?_ | refine blk_alloc ?_ _)); refine blk_far ?_ NB238_240.out _; (with_reducible repeat (first | refine blk_drewN ?_ _ | refine blk_drew ?_ | refine blk_alloc ?_ _)); refine blk_far ?_ NB238_240.out _; (with_reducible repeat (first | refine blk_drewN ?_ _ | refine blk_drew ?_ | refine blk_alloc ?_ _)); refine blk_far ?_ NB238_240.out _; (with_reducible repeat (first | refine blk_drewN ?_ _ | refine blk_drew ?_ | refine blk_alloc ?_ _)); refine blk_far ?_ NB238_240.out _; (with_reducible repeat (first | refine blk_drewN ?_ _ | refine blk_drew ?_ | refine blk_alloc ?_ _)); refine blk_far ?_ NB238_240.out _; (with_reducible repeat (first | refine blk_drewN ?_ _ | refine blk_drew ?_ | refine blk_alloc ?_ _)); refine blk_far ?_ NB238_240.out _; (with_reducible repeat (first | refine blk_drewN ?_ _ | refine blk_drew ?_ | refine blk_alloc ?_ _)); refine blk_far ?_ NB238_240.out _; (with_reducible repeat (first | refine blk_drewN ?_ _ | refine blk_drew ?_ | refine blk_alloc ?_ _)); refine blk_far ?_ NB238_240.out _; (with_reducible repeat (first | refine blk_drewN ?_ _ | refine blk_drew ?_ | refine blk_alloc ?_ _)); refine blk_far ?_ NB238_240.out _; (with_reducible repeat (first | refine blk_drewN ?_ _ | refine blk_drew ?_ | refine blk_alloc ?_ _)); refine blk_far ?_ NB238_240.out _; (with_reducible repeat (first | refine blk_drewN ?_ _ | refine blk_drew ?_ | refine blk_alloc ?_ _)); exact BK238.out) hb); have n1_ := Aside0.mk (blk_below (g := gb239) (o := .cells #[.int .i64 0, .int .i64 0, .int .i64 0, .int .i64 0, .int .i64 0, .int .i64 0, .int .i64 0, .int .i64 0, .int .i64 0, .int .i64 0, .int .i64 0] 35 (0, 0)) (by (with_reducible repeat (first | refine blk_drewN ?_ _ | refine blk_drew ?_ | refine blk_alloc ?_ _)); refine blk_far ?_ NB239_240.out _; (with_reducible repeat (first | refine blk_drewN ?_ _ | refine blk_drew ?_ | refine blk_alloc ?_ _)); refine blk_far ?_ NB239_240.out _; (with_reducible repeat (first | refine blk_drewN ?_ _ | refine blk_drew ?_ | refine blk_alloc ?_ _)); refine blk_far ?_ NB239_240.out _; (with_reducible repeat (first | refine blk_drewN ?_ _ | refine blk_drew ?_ | refine blk_alloc ?_ _)); refine blk_far ?_ NB239_240.out _; (with_reducible repeat (first | refine blk_drewN ?_ _ | refine blk_drew ?_ | refine blk_alloc ?_ _)); refine blk_far ?_ NB239_240.out _; (with_reducible repeat (first | refine blk_drewN ?_ _ | refine blk_drew ?_ | refine blk_alloc ?_ _)); refine blk_far ?_ NB239_240.out _; (with_reducible repeat (first | refine blk_drewN ?_ _ | refine blk_drew ?_ | refine blk_alloc ?_ _)); refine blk_far ?_ NB239_240.out _; (with_reducible repeat (first | refine blk_drewN ?_ _ | refine blk_drew ?_ | refine blk_alloc ?_ _)); refine blk_far ?_ NB239_240.out _; (with_reducible repeat (first | refine blk_drewN ?_ _ | refine blk_drew ?_ | refine blk_alloc ?_ _)); refine blk_far ?_ NB239_240.out _; (with_reducible repeat (first | refine blk_drewN ?_ _ | refine blk_drew ?_ | refine blk_alloc ?_ _)); refine blk_far ?_ NB239_240.out _; (with_reducible repeat (first | refine blk_drewN ?_ _ | refine blk_drew ?_ | refine blk_alloc ?_ _)); refine blk_far ?_ NB239_240.out _; (with_reducible repeat (first | refine blk_drewN ?_ _ | refine blk_drew ?_ | refine blk_alloc ?_ _)); exact BK239.out) hb); have n2_ := Aside0.mk (blk_below (g := gb240) (o := .cells #[.int .i64 0, .int .i64 0, .int .i64 0, .int .i64 0, .int .i64 0, .int .i64 0, .int .i64 0, .int .i64 0, .int .i64 0, .int .i64 0, .int .i64 0] 35 (0, 0)) (by (with_reducible repeat (first | refine blk_drewN ?_ _ | refine blk_drew ?_ | refine blk_alloc ?_ _)); refine blk_put (cs := #[.int .i64 0, .int .i64 0, .int .i64 0, .int .i64 0, .int .i64 0, .int .i64 0, .int .i64 0, .int .i64 0, .int .i64 0, .int .i64 0, .int .i64 0]) ?_ 10 _ rfl; (with_reducible repeat (first | refine blk_drewN ?_ _ | refine blk_drew ?_ | refine blk_alloc ?_ _)); refine blk_put (cs := #[.int .i64 0, .int .i64 0, .int .i64 0, .int .i64 0, .int .i64 0, .int .i64 0, .int .i64 0, .int .i64 0, .int .i64 0, .int .i64 0, .int .i64 0]) ?_ 9 _ rfl; (with_reducible repeat (first | refine blk_drewN ?_ _ | refine blk_drew ?_ | refine blk_alloc ?_ _)); refine blk_put (cs := #[.int .i64 0, .int .i64 0, .int .i64 0, .int .i64 0, .int .i64 0, .int .i64 0, .int .i64 0, .int .i64 0, .int .i64 0, .int .i64 0, .int .i64 0]) ?_ 8 _ rfl; (with_reducible repeat (first | refine blk_drewN ?_ _ | refine blk_drew ?_ | refine blk_alloc ?_ _)); refine blk_put (cs := #[.int .i64 0, .int .i64 0, .int .i64 0, .int .i64 0, .int .i64 0, .int .i64 0, .int .i64 0, .int .i64 0, .int .i64 0, .int .i64 0, .int .i64 0]) ?_ 7 _ rfl; (with_reducible repeat (first | refine blk_drewN ?_ _ | refine blk_drew ?_ | refine blk_alloc ?_ _)); refine blk_put (cs := #[.int .i64 0, .int .i64 0, .int .i64 0, .int .i64 0, .int .i64 0, .int .i64 0, .int .i64 0, .int .i64 0, .int .i64 0, .int .i64 0, .int .i64 0]) ?_ 6 _ rfl; (with_reducible repeat (first | refine blk_drewN ?_ _ | refine blk_drew ?_ | refine blk_alloc ?_ _)); refine blk_put (cs := #[.int .i64 0, .int .i64 0, .int .i64 0, .int .i64 0, .int .i64 0, .int .i64 0, .int .i64 0, .int .i64 0, .int .i64 0, .int .i64 0, .int .i64 0]) ?_ 5 _ rfl; (with_reducible repeat (first | refine blk_drewN ?_ _ | refine blk_drew ?_ | refine blk_alloc ?_ _)); refine blk_put (cs := #[.int .i64 0, .int .i64 0, .int .i64 0, .int .i64 0, .int .i64 0, .int .i64 0, .int .i64 0, .int .i64 0, .int .i64 0, .int .i64 0, .int .i64 0]) ?_ 4 _ rfl; (with_reducible repeat (first | refine blk_drewN ?_ _ | refine blk_drew ?_ | refine blk_alloc ?_ _)); refine blk_put (cs := #[.int .i64 0, .int .i64 0, .int .i64 0, .int .i64 0, .int .i64 0, .int .i64 0, .int .i64 0, .int .i64 0, .int .i64 0, .int .i64 0, .int .i64 0]) ?_ 3 _ rfl; (with_reducible repeat (first | refine blk_drewN ?_ _ | refine blk_drew ?_ | refine blk_alloc ?_ _)); refine blk_put (cs := #[.int .i64 0, .int .i64 0, .int .i64 0, .int .i64 0, .int .i64 0, .int .i64 0, .int .i64 0, .int .i64 0, .int .i64 0, .int .i64 0, .int .i64 0]) ?_ 2 _ rfl; (with_reducible repeat (first | refine blk_drewN ?_ _ | refine blk_drew ?_ | refine blk_alloc ?_ _)); refine blk_put (cs := #[.int .i64 0, .int .i64 0, .int .i64 0, .int .i64 0, .int .i64 0, .int .i64 0, .int .i64 0, .int .i64 0, .int .i64 0, .int .i64 0, .int .i64 0]) ?_ 1 _ rfl; (with_reducible repeat (first | refine blk_drewN ?_ _ | refine blk_drew ?_ | refine blk_alloc ?_ _)); refine blk_put (cs := #[.int .i64 0, .int .i64 0, .int .i64 0, .int .i64 0, .int .i64 0, .int .i64 0, .int .i64 0, .int .i64 0, .int .i64 0, .int .i64 0, .int .i64 0]) ?_ 0 _ rfl; (with_reducible repeat (first | refine blk_drewN ?_ _ | refine blk_drew ?_ | refine blk_alloc ?_ _)); exact BK240.out) hb); have n3_ := Aside0.mk (below_step (by repeat (first | (with_reducible first | exact HB.out | apply below_alloc | apply pw_below_drewN | apply below_drew1 | refine below_set ?_ GE238.out | refine below_set ?_ GE239.out | refine below_set ?_ GE240.out) | exact HB.out)) hb); clear BK238; clear BK239; clear BK240; clear HB; have BK238 := n0_; have BK239 := n1_; have BK240 := n2_; have HB := n3_; clear n0_ n1_ n2_ n3_; (try clear hb); (try clear hb2); (try clear hk); (try clear hi)) | ((with_reducible refine gate_callee (f := 25) rfl ?_); refine goesL_ (some 18) rfl rfl Try.func25 (by kernel_rfl) rfl #[.int .i64 (wrap64 ((wrap64 (2 * (wrap64 (a0_0 * a0_1)))) + 1))] rfl (by (try simp only [List.map_toArray, List.map_cons, List.map_nil]); first | done | rfl | (simp only [List.length_drop, List.length_take]; rfl)) ?_; (with_reducible refine (ferruleref16_l.calls k (wrap64 ((wrap64 (2 * (wrap64 (a0_0 * a0_1)))) + 1)) t242 _ A3.out).mono ?_); rintro e w17 ⟨rfl, hb⟩; refine ⟨_, rfl, ?_⟩; have n0_ := Aside0.mk (blk_below (g := gb238) (o := .cells #[.int .i64 a0_0, .int .i64 a0_1, .int .i64 a0_2, .int .i64 a0_3, .int .i64 a0_4, .int .i64 a0_5, .bool a0_6] 29 (0, 0)) (by (with_reducible repeat (first | refine blk_drewN ?_ _ | refine blk_drew ?_ | refine blk_alloc ?_ _)); exact BK238.out) hb); have n1_ := Aside0.mk (blk_below (g := gb239) (o := .cells #[.int .i64 0, .int .i64 0, .int .i64 0, .int .i64 0, .int .i64 0, .int .i64 0, .int .i64 0, .int .i64 0, .int .i64 0, .int .i64 0, .int .i64 0] 35 (0, 0)) (by (with_reducible repeat (first | refine blk_drewN ?_ _ | refine blk_drew ?_ | refine blk_alloc ?_ _)); exact BK239.out) hb); have n2_ := Aside0.mk (blk_below (g := gb240) (o := .cells #[.int .i64 0, .int .i64 0, .int .i64 0, .int .i64 0, .int .i64 0, .int .i64 0, .int .i64 0, .int .i64 0, .int .i64 0, .int .i64 0, .int .i64 0] 35 (0, 0)) (by (with_reducible repeat (first | refine blk_drewN ?_ _ | refine blk_drew ?_ | refine blk_alloc ?_ _)); exact BK240.out) hb); have n3_ := Aside0.mk (below_step (by repeat (first | (with_reducible first | exact HB.out | apply below_alloc | apply pw_below_drewN | apply below_drew1 | refine below_set ?_ GE238.out | refine below_set ?_ GE239.out | refine below_set ?_ GE240.out) | exact HB.out)) hb); clear BK238; clear BK239; clear BK240; clear HB; have BK238 := n0_; have BK239 := n1_; have BK240 := n2_; have HB := n3_; clear n0_ n1_ n2_ n3_; (try clear hb); (try clear hb2); (try clear hk); (try clear hi); have hcz18_0 : w17.cell? ⟨gb240, 0, none⟩ = some (.int .i64 0) := (blk_cell BK240.out 0).trans rfl; have hcz18_1 : w17.cell? ⟨gb240, 1, none⟩ = some (.int .i64 0) := (blk_cell BK240.out 1).trans rfl; have hcz18_2 : w17.cell? ⟨gb240, 2, none⟩ = some (.int .i64 0) := (blk_cell BK240.out 2).trans rfl; have hcz18_3 : w17.cell? ⟨gb240, 3, none⟩ = some (.int .i64 0) := (blk_cell BK240.out 3).trans rfl; have hcz18_4 : w17.cell? ⟨gb240, 4, none⟩ = some (.int .i64 0) := (blk_cell BK240.out 4).trans rfl; have hcz18_5 : w17.cell? ⟨gb240, 5, none⟩ = some (.int .i64 0) := (blk_cell BK240.out 5).trans rfl; have hcz18_6 : w17.cell? ⟨gb240, 6, none⟩ = some (.int .i64 0) := (blk_cell BK240.out 6).trans rfl; have hcz18_7 : w17.cell? ⟨gb240, 7, none⟩ = some (.int .i64 0) := (blk_cell BK240.out 7).trans rfl; have hcz18_8 : w17.cell? ⟨gb240, 8, none⟩ = some (.int .i64 0) := (blk_cell BK240.out 8).trans rfl; have hcz18_9 : w17.cell? ⟨gb240, 9, none⟩ = some (.int .i64 0) := (blk_cell BK240.out 9).trans rfl; have hcz18_10 : w17.cell? ⟨gb240, 10, none⟩ = some (.int .i64 0) := (blk_cell BK240.out 10).trans rfl; have hfz18_0 := blk_frozen BK240.out 0; have hfz18_1 := blk_frozen BK240.out 1; have hfz18_2 := blk_frozen BK240.out 2; have hfz18_3 := blk_frozen BK240.out 3; have hfz18_4 := blk_frozen BK240.out 4; have hfz18_5 := blk_frozen BK240.out 5; have hfz18_6 := blk_frozen BK240.out 6; have hfz18_7 := blk_frozen BK240.out 7; have hfz18_8 := blk_frozen BK240.out 8; have hfz18_9 := blk_frozen BK240.out 9; have hfz18_10 := blk_frozen BK240.out 10))
 have n0_ : Aside0 ((w17.setCell ⟨gb240, 0, none⟩ (.int .i64 (wrap64 ((wrap64 (2 * t241)) + t242)))).heap[gb238]? = some (.cells #[.int .i64 a0_0, .int .i64 a0_1, .int .i64 a0_2, .int .i64 a0_3, .int .i64 a0_4, .int .i64 a0_5, .bool a0_6] 29 (0, 0))) := ⟨by (with_reducible repeat (first | refine blk_drewN ?_ _ | refine blk_drew ?_ | refine blk_alloc ?_ _)); refine blk_far ?_ NB238_240.out _; (with_reducible repeat (first | refine blk_drewN ?_ _ | refine blk_drew ?_ | refine blk_alloc ?_ _)); exact BK238.out⟩
 have n1_ : Aside0 ((w17.setCell ⟨gb240, 0, none⟩ (.int .i64 (wrap64 ((wrap64 (2 * t241)) + t242)))).heap[gb239]? = some (.cells #[.int .i64 0, .int .i64 0, .int .i64 0, .int .i64 0, .int .i64 0, .int .i64 0, .int .i64 0, .int .i64 0, .int .i64 0, .int .i64 0, .int .i64 0] 35 (0, 0))) := ⟨by (with_reducible repeat (first | refine blk_drewN ?_ _ | refine blk_drew ?_ | refine blk_alloc ?_ _)); refine blk_far ?_ NB239_240.out _; (with_reducible repeat (first | refine blk_drewN ?_ _ | refine blk_drew ?_ | refine blk_alloc ?_ _)); exact BK239.out⟩
 have n2_ : Aside0 ((w17.setCell ⟨gb240, 0, none⟩ (.int .i64 (wrap64 ((wrap64 (2 * t241)) + t242)))).heap[gb240]? = some (.cells #[.int .i64 (wrap64 ((wrap64 (2 * t241)) + t242)), .int .i64 0, .int .i64 0, .int .i64 0, .int .i64 0, .int .i64 0, .int .i64 0, .int .i64 0, .int .i64 0, .int .i64 0, .int .i64 0] 35 (0, 0))) := ⟨by (with_reducible repeat (first | refine blk_drewN ?_ _ | refine blk_drew ?_ | refine blk_alloc ?_ _)); refine blk_put (cs := #[.int .i64 0, .int .i64 0, .int .i64 0, .int .i64 0, .int .i64 0, .int .i64 0, .int .i64 0, .int .i64 0, .int .i64 0, .int .i64 0, .int .i64 0]) ?_ 0 _ rfl; (with_reducible repeat (first | refine blk_drewN ?_ _ | refine blk_drew ?_ | refine blk_alloc ?_ _)); exact BK240.out⟩
 have n3_ : Aside0 (Below w.heap.size w (w17.setCell ⟨gb240, 0, none⟩ (.int .i64 (wrap64 ((wrap64 (2 * t241)) + t242))))) := ⟨by repeat (first | (with_reducible first | exact HB.out | apply below_alloc | apply pw_below_drewN | apply below_drew1 | refine below_set ?_ GE238.out | refine below_set ?_ GE239.out | refine below_set ?_ GE240.out) | exact HB.out)⟩
 (try clear BK238)
 (try clear BK239)
 (try clear BK240)
 (try clear HB)
 generalize (w17.setCell ⟨gb240, 0, none⟩ (.int .i64 (wrap64 ((wrap64 (2 * t241)) + t242)))) = w19 at n0_ n1_ n2_ n3_ ⊢
 have BK238 := n0_
 have BK239 := n1_
 have BK240 := n2_
 have HB := n3_
 clear n0_ n1_ n2_ n3_
 have n0_ := Aside0.mk (blk_drew BK238.out)
 have n1_ := Aside0.mk (blk_drew BK239.out)
 have n2_ := Aside0.mk (blk_drew BK240.out)
 have n3_ := Aside0.mk (below_drew1 HB.out)
 clear BK238
 clear BK239
 clear BK240
 clear HB
 have BK238 := n0_
 have BK239 := n1_
 have BK240 := n2_
 have HB := n3_
 clear n0_ n1_ n2_ n3_
 refine start_ (n := 12) (S := fun w' => w'.cell? ⟨gb238, 0, none⟩ = some (.int .i64 a0_0) ∧ w'.cell? ⟨gb238, 1, none⟩ = some (.int .i64 a0_1) ∧ w'.cell? ⟨gb238, 2, none⟩ = some (.int .i64 a0_2) ∧ w'.cell? ⟨gb238, 3, none⟩ = some (.int .i64 a0_3) ∧ w'.cell? ⟨gb238, 4, none⟩ = some (.int .i64 a0_4) ∧ w'.cell? ⟨gb238, 5, none⟩ = some (.int .i64 a0_5) ∧ w'.cell? ⟨gb238, 6, none⟩ = some (.bool a0_6) ∧ w'.cell? ⟨gb240, 0, none⟩ = some (.int .i64 (wrap64 ((wrap64 (2 * t241)) + t242))) ∧ w'.cell? ⟨gb240, 1, none⟩ = some (.int .i64 0) ∧ w'.cell? ⟨gb240, 2, none⟩ = some (.int .i64 0) ∧ w'.cell? ⟨gb240, 3, none⟩ = some (.int .i64 0) ∧ w'.cell? ⟨gb240, 4, none⟩ = some (.int .i64 0) ∧ w'.cell? ⟨gb240, 5, none⟩ = some (.int .i64 0) ∧ w'.cell? ⟨gb240, 6, none⟩ = some (.int .i64 0) ∧ w'.cell? ⟨gb240, 7, none⟩ = some (.int .i64 0) ∧ w'.cell? ⟨gb240, 8, none⟩ = some (.int .i64 0) ∧ w'.cell? ⟨gb240, 9, none⟩ = some (.int .i64 0) ∧ w'.cell? ⟨gb240, 10, none⟩ = some (.int .i64 0)) (ds := [11]) #[false, false, false, false, false, false, false, false, false, false, false, false] (by kernel_rfl) rfl rfl ⟨(blk_cell BK238.out 0).trans rfl, (blk_cell BK238.out 1).trans rfl, (blk_cell BK238.out 2).trans rfl, (blk_cell BK238.out 3).trans rfl, (blk_cell BK238.out 4).trans rfl, (blk_cell BK238.out 5).trans rfl, (blk_cell BK238.out 6).trans rfl, (blk_cell BK240.out 0).trans rfl, (blk_cell BK240.out 1).trans rfl, (blk_cell BK240.out 2).trans rfl, (blk_cell BK240.out 3).trans rfl, (blk_cell BK240.out 4).trans rfl, (blk_cell BK240.out 5).trans rfl, (blk_cell BK240.out 6).trans rfl, (blk_cell BK240.out 7).trans rfl, (blk_cell BK240.out 8).trans rfl, (blk_cell BK240.out 9).trans rfl, (blk_cell BK240.out 10).trans rfl⟩ (fun hHeld => ?_); refine with_tabW ferruleref16_Of.tab4 ferruleref16_Of.bits4 (fun HT_ HW_ => ?_)
 generalize w19.drew = w20 at BK238 BK239 BK240 HB hHeld ⊢
 refine pure_ (i := 0) (N := some 21) (v := ?_) (a' := ?_) #[true, false, false, false, false, false, false, false, false, false, false, false] rfl rfl (any_of HT_.out (by kernel_rfl)) (fun _ _ _ h => h) (Or.inl ⟨by rfl, ?_⟩) ?_ ?_
 rotate_left
 {
 intro w'
 go_simp
 with_reducible rfl
 }
 rotate_left
 {
 simp only [Act.put, List.setIfInBounds_toArray, List.set_cons_zero, List.set_cons_succ, i64_w, i32_w]
 rfl
 }
 refine pure_ (i := 3) (N := some 24) (v := ?_) (a' := ?_) #[true, false, false, true, false, false, false, false, false, false, false, false] rfl rfl (any_of HT_.out (by kernel_rfl)) (fun _ _ _ h => h) (Or.inl ⟨by rfl, ?_⟩) ?_ ?_
 rotate_left
 {
 intro w'
 go_simp
 with_reducible rfl
 }
 rotate_left
 {
 simp only [Act.put, List.setIfInBounds_toArray, List.set_cons_zero, List.set_cons_succ, i64_w, i32_w]
 rfl
 }
 refine pure_ (i := 5) (N := some 26) (v := ?_) (a' := ?_) #[true, false, false, true, false, true, false, false, false, false, false, false] rfl rfl (any_of HT_.out (by kernel_rfl)) (fun _ _ _ h => h) (Or.inl ⟨by rfl, ?_⟩) ?_ ?_
 rotate_left
 {
 intro w'
 go_simp
 with_reducible rfl
 }
 rotate_left
 {
 simp only [Act.put, List.setIfInBounds_toArray, List.set_cons_zero, List.set_cons_succ, i64_w, i32_w]
 rfl
 }
 refine take_ (i := 1) (N := some 22) (v := ?_) (a' := ?_) #[true, true, false, true, false, true, false, false, false, false, false, false] rfl rfl (take_ofW HT_.out HW_.out (by kernel_rfl)) (fun _ _ _ h => h) (Or.inl ⟨by rfl, ?_⟩) hHeld ?_ ?_
 rotate_left
 {
 rintro w' ⟨s0, s1, s2, s3, s4, s5, s6, s7, s8, s9, s10, s11, s12, s13, s14, s15, s16, s17⟩
 go_simp
 with_reducible rfl
 }
 rotate_left
 {
 simp only [Act.put, List.setIfInBounds_toArray, List.set_cons_zero, List.set_cons_succ, i64_w, i32_w]
 rfl
 }
 refine take_ (i := 4) (N := some 25) (v := ?_) (a' := ?_) #[true, true, false, true, true, true, false, false, false, false, false, false] rfl rfl (take_ofW HT_.out HW_.out (by kernel_rfl)) (fun _ _ _ h => h) (Or.inl ⟨by rfl, ?_⟩) hHeld ?_ ?_
 rotate_left
 {
 rintro w' ⟨s0, s1, s2, s3, s4, s5, s6, s7, s8, s9, s10, s11, s12, s13, s14, s15, s16, s17⟩
 go_simp
 with_reducible rfl
 }
 rotate_left
 {
 simp only [Act.put, List.setIfInBounds_toArray, List.set_cons_zero, List.set_cons_succ, i64_w, i32_w]
 rfl
 }
 refine take_ (i := 6) (N := some 27) (v := ?_) (a' := ?_) #[true, true, false, true, true, true, true, false, false, false, false, false] rfl rfl (take_ofW HT_.out HW_.out (by kernel_rfl)) (fun _ _ _ h => h) (Or.inl ⟨by rfl, ?_⟩) hHeld ?_ ?_
 rotate_left
 {
 rintro w' ⟨s0, s1, s2, s3, s4, s5, s6, s7, s8, s9, s10, s11, s12, s13, s14, s15, s16, s17⟩
 go_simp
 with_reducible rfl
 }
 rotate_left
 {
 simp only [Act.put, List.setIfInBounds_toArray, List.set_cons_zero, List.set_cons_succ, i64_w, i32_w]
 rfl
 }
 refine pure_ (i := 7) (N := some 28) (v := ?_) (a' := ?_) #[true, true, false, true, true, true, true, true, false, false, false, false] rfl rfl (any_of HT_.out (by kernel_rfl)) (fun _ _ _ h => h) (Or.inl ⟨by rfl, ?_⟩) ?_ ?_
 rotate_left
 {
 intro w'
 go_simp
 with_reducible rfl
 }
 rotate_left
 {
 simp only [Act.put, List.setIfInBounds_toArray, List.set_cons_zero, List.set_cons_succ, i64_w, i32_w]
 rfl
 }
 refine one_ (i := 2) (N := some 23) #[true, true, true, true, true, true, true, true, false, false, false, false] rfl rfl (one_of HT_.out (by kernel_rfl)) (by decide) (fun K hK => ?_)
 refine goes_ Try.func25 (by kernel_rfl) rfl #[.int .i64 a0_4] (by rfl) rfl rfl (by (try simp only [List.map_toArray, List.map_cons, List.map_nil]); first | done | rfl | (simp only [List.length_drop, List.length_take]; rfl)) ?_
 with_reducible refine (ferruleref16_l.calls k a0_4 t243 _ A4.out).mono ?_
 rintro e w21 ⟨rfl, hb⟩
 refine ⟨_, rfl, ?_⟩
 have n0_ := Aside0.mk (blk_below (g := gb238) (o := .cells #[.int .i64 a0_0, .int .i64 a0_1, .int .i64 a0_2, .int .i64 a0_3, .int .i64 a0_4, .int .i64 a0_5, .bool a0_6] 29 (0, 0)) (by (with_reducible repeat (first | refine blk_drewN ?_ _ | refine blk_drew ?_ | refine blk_alloc ?_ _)); exact BK238.out) hb)
 have n1_ := Aside0.mk (blk_below (g := gb239) (o := .cells #[.int .i64 0, .int .i64 0, .int .i64 0, .int .i64 0, .int .i64 0, .int .i64 0, .int .i64 0, .int .i64 0, .int .i64 0, .int .i64 0, .int .i64 0] 35 (0, 0)) (by (with_reducible repeat (first | refine blk_drewN ?_ _ | refine blk_drew ?_ | refine blk_alloc ?_ _)); exact BK239.out) hb)
 have n2_ := Aside0.mk (blk_below (g := gb240) (o := .cells #[.int .i64 (wrap64 ((wrap64 (2 * t241)) + t242)), .int .i64 0, .int .i64 0, .int .i64 0, .int .i64 0, .int .i64 0, .int .i64 0, .int .i64 0, .int .i64 0, .int .i64 0, .int .i64 0] 35 (0, 0)) (by (with_reducible repeat (first | refine blk_drewN ?_ _ | refine blk_drew ?_ | refine blk_alloc ?_ _)); exact BK240.out) hb)
 have n3_ := Aside0.mk (below_step (by repeat (first | (with_reducible first | exact HB.out | apply below_alloc | apply pw_below_drewN | apply below_drew1 | refine below_set ?_ GE238.out | refine below_set ?_ GE239.out | refine below_set ?_ GE240.out) | exact HB.out)) hb)
 clear BK238
 clear BK239
 clear BK240
 clear HB
 have BK238 := n0_
 have BK239 := n1_
 have BK240 := n2_
 have HB := n3_
 clear n0_ n1_ n2_ n3_
 (try clear hb)
 (try clear hb2)
 (try clear hk)
 (try clear hi)
 refine hK.out _ _ ⟨(blk_cell BK238.out 0).trans rfl, (blk_cell BK238.out 1).trans rfl, (blk_cell BK238.out 2).trans rfl, (blk_cell BK238.out 3).trans rfl, (blk_cell BK238.out 4).trans rfl, (blk_cell BK238.out 5).trans rfl, (blk_cell BK238.out 6).trans rfl, (blk_cell BK240.out 0).trans rfl, (blk_cell BK240.out 1).trans rfl, (blk_cell BK240.out 2).trans rfl, (blk_cell BK240.out 3).trans rfl, (blk_cell BK240.out 4).trans rfl, (blk_cell BK240.out 5).trans rfl, (blk_cell BK240.out 6).trans rfl, (blk_cell BK240.out 7).trans rfl, (blk_cell BK240.out 8).trans rfl, (blk_cell BK240.out 9).trans rfl, (blk_cell BK240.out 10).trans rfl⟩ (fun hHeld => ?_)
 clear hK K
 refine norm_ (a' := ?_) ?_ ?_
 rotate_left
 {
 show Act.put _ (some 23) _ = _
 simp only [Act.put, List.setIfInBounds_toArray, List.set_cons_zero, List.set_cons_succ, i64_w, i32_w]
 rfl
 }
 refine pure_ (i := 8) (N := some 29) (v := ?_) (a' := ?_) #[true, true, true, true, true, true, true, true, true, false, false, false] rfl rfl (any_of HT_.out (by kernel_rfl)) (fun _ _ _ h => h) (Or.inl ⟨by rfl, ?_⟩) ?_ ?_
 rotate_left
 {
 intro w'
 go_simp
 with_reducible rfl
 }
 rotate_left
 {
 simp only [Act.put, List.setIfInBounds_toArray, List.set_cons_zero, List.set_cons_succ, i64_w, i32_w]
 rfl
 }
 refine one_ (i := 9) (N := some 30) #[true, true, true, true, true, true, true, true, true, true, false, false] rfl rfl (one_of HT_.out (by kernel_rfl)) (by decide) (fun K hK => ?_)
 refine goes_ Try.func26 (by kernel_rfl) rfl #[.int .i64 (wrap64 (t243 + (wrap64 (a0_4 * (wrap64 ((wrap64 (2 * t241)) + t242))))))] (by rfl) rfl rfl (by (try simp only [List.map_toArray, List.map_cons, List.map_nil]); first | done | rfl | (simp only [List.length_drop, List.length_take]; rfl)) ?_
 with_reducible refine (ferruleref12_Pages.calls k (wrap64 (t243 + (wrap64 (a0_4 * (wrap64 ((wrap64 (2 * t241)) + t242)))))) t244 _ A5.out).mono ?_
 rintro e w' ⟨rfl, ⟨nd, rfl⟩⟩
 refine ⟨_, rfl, ?_⟩
 refine hK.out _ _ ⟨(blk_cell BK238.out 0).trans rfl, (blk_cell BK238.out 1).trans rfl, (blk_cell BK238.out 2).trans rfl, (blk_cell BK238.out 3).trans rfl, (blk_cell BK238.out 4).trans rfl, (blk_cell BK238.out 5).trans rfl, (blk_cell BK238.out 6).trans rfl, (blk_cell BK240.out 0).trans rfl, (blk_cell BK240.out 1).trans rfl, (blk_cell BK240.out 2).trans rfl, (blk_cell BK240.out 3).trans rfl, (blk_cell BK240.out 4).trans rfl, (blk_cell BK240.out 5).trans rfl, (blk_cell BK240.out 6).trans rfl, (blk_cell BK240.out 7).trans rfl, (blk_cell BK240.out 8).trans rfl, (blk_cell BK240.out 9).trans rfl, (blk_cell BK240.out 10).trans rfl⟩ (fun hHeld => ?_)
 clear hK K
 refine norm_ (a' := ?_) ?_ ?_
 rotate_left
 {
 show Act.put _ (some 30) _ = _
 simp only [Act.put, List.setIfInBounds_toArray, List.set_cons_zero, List.set_cons_succ, i64_w, i32_w]
 rfl
 }
 refine pure_ (i := 10) (N := some 31) (v := ?_) (a' := ?_) #[true, true, true, true, true, true, true, true, true, true, true, false] rfl rfl (any_of HT_.out (by kernel_rfl)) (fun _ _ _ h => h) (Or.inl ⟨by rfl, ?_⟩) ?_ ?_
 rotate_left
 {
 intro w'
 go_simp
 with_reducible rfl
 }
 rotate_left
 {
 simp only [Act.put, List.setIfInBounds_toArray, List.set_cons_zero, List.set_cons_succ, i64_w, i32_w]
 rfl
 }
 refine last_ (i := 11) (N := none) #[true, true, true, true, true, true, true, true, true, true, true, true] rfl rfl (one_of HT_.out (by kernel_rfl)) (by decide) (fun K hK => ?_)
 have hs22 : w21.cell? ⟨gb240, 1, none⟩ = some (.int .i64 0) := (blk_cell BK240.out 1).trans rfl
 have hfs22 := blk_frozen BK240.out 1
 have hns22_0 := NB238_240.out
 have hns22_1 := NB239_240.out
 have hms22_0 := NB240_238.out
 have hms22_1 := NB240_239.out
 refine skip_ (w1 := ?_) (by rfl) rfl ?_ ?_
 rotate_left
 {
 go_simp
 rfl
 }
 refine hK.out _ _ ?_
 clear hK K
 refine done_ (done_of HT_.out (by kernel_rfl)) ?_
 have hcz23_0 : w21.cell? ⟨gb238, 0, none⟩ = some (.int .i64 a0_0) := (blk_cell BK238.out 0).trans rfl
 have hcz23_1 : w21.cell? ⟨gb238, 1, none⟩ = some (.int .i64 a0_1) := (blk_cell BK238.out 1).trans rfl
 have hcz23_2 : w21.cell? ⟨gb238, 2, none⟩ = some (.int .i64 a0_2) := (blk_cell BK238.out 2).trans rfl
 have hcz23_3 : w21.cell? ⟨gb238, 3, none⟩ = some (.int .i64 a0_3) := (blk_cell BK238.out 3).trans rfl
 have hcz23_4 : w21.cell? ⟨gb238, 4, none⟩ = some (.int .i64 a0_4) := (blk_cell BK238.out 4).trans rfl
 have hcz23_5 : w21.cell? ⟨gb238, 5, none⟩ = some (.int .i64 a0_5) := (blk_cell BK238.out 5).trans rfl
 have hcz23_6 : w21.cell? ⟨gb238, 6, none⟩ = some (.bool a0_6) := (blk_cell BK238.out 6).trans rfl
 have hfz23_0 := blk_frozen BK238.out 0
 have hfz23_1 := blk_frozen BK238.out 1
 have hfz23_2 := blk_frozen BK238.out 2
 have hfz23_3 := blk_frozen BK238.out 3
 have hfz23_4 := blk_frozen BK238.out 4
 have hfz23_5 := blk_frozen BK238.out 5
 have hfz23_6 := blk_frozen BK238.out 6
 have hcz24_0 : w21.cell? ⟨gb240, 0, none⟩ = some (.int .i64 (wrap64 ((wrap64 (2 * t241)) + t242))) := (blk_cell BK240.out 0).trans rfl
 have hcz24_1 : w21.cell? ⟨gb240, 1, none⟩ = some (.int .i64 0) := (blk_cell BK240.out 1).trans rfl
 have hcz24_2 : w21.cell? ⟨gb240, 2, none⟩ = some (.int .i64 0) := (blk_cell BK240.out 2).trans rfl
 have hcz24_3 : w21.cell? ⟨gb240, 3, none⟩ = some (.int .i64 0) := (blk_cell BK240.out 3).trans rfl
 have hcz24_4 : w21.cell? ⟨gb240, 4, none⟩ = some (.int .i64 0) := (blk_cell BK240.out 4).trans rfl
 have hcz24_5 : w21.cell? ⟨gb240, 5, none⟩ = some (.int .i64 0) := (blk_cell BK240.out 5).trans rfl
 have hcz24_6 : w21.cell? ⟨gb240, 6, none⟩ = some (.int .i64 0) := (blk_cell BK240.out 6).trans rfl
 have hcz24_7 : w21.cell? ⟨gb240, 7, none⟩ = some (.int .i64 0) := (blk_cell BK240.out 7).trans rfl
 have hcz24_8 : w21.cell? ⟨gb240, 8, none⟩ = some (.int .i64 0) := (blk_cell BK240.out 8).trans rfl
 have hcz24_9 : w21.cell? ⟨gb240, 9, none⟩ = some (.int .i64 0) := (blk_cell BK240.out 9).trans rfl
 have hcz24_10 : w21.cell? ⟨gb240, 10, none⟩ = some (.int .i64 0) := (blk_cell BK240.out 10).trans rfl
 have hfz24_0 := blk_frozen BK240.out 0
 have hfz24_1 := blk_frozen BK240.out 1
 have hfz24_2 := blk_frozen BK240.out 2
 have hfz24_3 := blk_frozen BK240.out 3
 have hfz24_4 := blk_frozen BK240.out 4
 have hfz24_5 := blk_frozen BK240.out 5
 have hfz24_6 := blk_frozen BK240.out 6
 have hfz24_7 := blk_frozen BK240.out 7
 have hfz24_8 := blk_frozen BK240.out 8
 have hfz24_9 := blk_frozen BK240.out 9
 have hfz24_10 := blk_frozen BK240.out 10
 try go_wp2
 have n0_ : Aside0 (((w21.setCell ⟨gb240, 1, none⟩ (.int .i64 t244)).setCell ⟨gb240, 2, none⟩ (.int .i64 (wrap64 ((wrap64 (4 + a0_3)) + a0_1)))).heap[gb238]? = some (.cells #[.int .i64 a0_0, .int .i64 a0_1, .int .i64 a0_2, .int .i64 a0_3, .int .i64 a0_4, .int .i64 a0_5, .bool a0_6] 29 (0, 0))) := ⟨by (with_reducible repeat (first | refine blk_drewN ?_ _ | refine blk_drew ?_ | refine blk_alloc ?_ _)); refine blk_far ?_ NB238_240.out _; (with_reducible repeat (first | refine blk_drewN ?_ _ | refine blk_drew ?_ | refine blk_alloc ?_ _)); refine blk_far ?_ NB238_240.out _; (with_reducible repeat (first | refine blk_drewN ?_ _ | refine blk_drew ?_ | refine blk_alloc ?_ _)); exact BK238.out⟩
 have n1_ : Aside0 (((w21.setCell ⟨gb240, 1, none⟩ (.int .i64 t244)).setCell ⟨gb240, 2, none⟩ (.int .i64 (wrap64 ((wrap64 (4 + a0_3)) + a0_1)))).heap[gb239]? = some (.cells #[.int .i64 0, .int .i64 0, .int .i64 0, .int .i64 0, .int .i64 0, .int .i64 0, .int .i64 0, .int .i64 0, .int .i64 0, .int .i64 0, .int .i64 0] 35 (0, 0))) := ⟨by (with_reducible repeat (first | refine blk_drewN ?_ _ | refine blk_drew ?_ | refine blk_alloc ?_ _)); refine blk_far ?_ NB239_240.out _; (with_reducible repeat (first | refine blk_drewN ?_ _ | refine blk_drew ?_ | refine blk_alloc ?_ _)); refine blk_far ?_ NB239_240.out _; (with_reducible repeat (first | refine blk_drewN ?_ _ | refine blk_drew ?_ | refine blk_alloc ?_ _)); exact BK239.out⟩
 have n2_ : Aside0 (((w21.setCell ⟨gb240, 1, none⟩ (.int .i64 t244)).setCell ⟨gb240, 2, none⟩ (.int .i64 (wrap64 ((wrap64 (4 + a0_3)) + a0_1)))).heap[gb240]? = some (.cells #[.int .i64 (wrap64 ((wrap64 (2 * t241)) + t242)), .int .i64 t244, .int .i64 (wrap64 ((wrap64 (4 + a0_3)) + a0_1)), .int .i64 0, .int .i64 0, .int .i64 0, .int .i64 0, .int .i64 0, .int .i64 0, .int .i64 0, .int .i64 0] 35 (0, 0))) := ⟨by (with_reducible repeat (first | refine blk_drewN ?_ _ | refine blk_drew ?_ | refine blk_alloc ?_ _)); refine blk_put (cs := #[.int .i64 (wrap64 ((wrap64 (2 * t241)) + t242)), .int .i64 t244, .int .i64 0, .int .i64 0, .int .i64 0, .int .i64 0, .int .i64 0, .int .i64 0, .int .i64 0, .int .i64 0, .int .i64 0]) ?_ 2 _ rfl; (with_reducible repeat (first | refine blk_drewN ?_ _ | refine blk_drew ?_ | refine blk_alloc ?_ _)); refine blk_put (cs := #[.int .i64 (wrap64 ((wrap64 (2 * t241)) + t242)), .int .i64 0, .int .i64 0, .int .i64 0, .int .i64 0, .int .i64 0, .int .i64 0, .int .i64 0, .int .i64 0, .int .i64 0, .int .i64 0]) ?_ 1 _ rfl; (with_reducible repeat (first | refine blk_drewN ?_ _ | refine blk_drew ?_ | refine blk_alloc ?_ _)); exact BK240.out⟩
 have n3_ : Aside0 (Below w.heap.size w ((w21.setCell ⟨gb240, 1, none⟩ (.int .i64 t244)).setCell ⟨gb240, 2, none⟩ (.int .i64 (wrap64 ((wrap64 (4 + a0_3)) + a0_1))))) := ⟨by repeat (first | (with_reducible first | exact HB.out | apply below_alloc | apply pw_below_drewN | apply below_drew1 | refine below_set ?_ GE238.out | refine below_set ?_ GE239.out | refine below_set ?_ GE240.out) | exact HB.out)⟩
 (try clear BK238)
 (try clear BK239)
 (try clear BK240)
 (try clear HB)
 generalize ((w21.setCell ⟨gb240, 1, none⟩ (.int .i64 t244)).setCell ⟨gb240, 2, none⟩ (.int .i64 (wrap64 ((wrap64 (4 + a0_3)) + a0_1)))) = w25 at n0_ n1_ n2_ n3_ ⊢
 have BK238 := n0_
 have BK239 := n1_
 have BK240 := n2_
 have HB := n3_
 clear n0_ n1_ n2_ n3_
 (try (rw [drewN_self w25]; generalize hq_ : World.drewN w25 _ = w25; have n0_ : Aside0 (w25.heap[gb238]? = some (.cells #[.int .i64 a0_0, .int .i64 a0_1, .int .i64 a0_2, .int .i64 a0_3, .int .i64 a0_4, .int .i64 a0_5, .bool a0_6] 29 (0, 0))) := ⟨by rw [← hq_]; exact (by (with_reducible repeat (first | refine blk_drewN ?_ _ | refine blk_drew ?_ | refine blk_alloc ?_ _)); exact BK238.out)⟩; have n1_ : Aside0 (w25.heap[gb239]? = some (.cells #[.int .i64 0, .int .i64 0, .int .i64 0, .int .i64 0, .int .i64 0, .int .i64 0, .int .i64 0, .int .i64 0, .int .i64 0, .int .i64 0, .int .i64 0] 35 (0, 0))) := ⟨by rw [← hq_]; exact (by (with_reducible repeat (first | refine blk_drewN ?_ _ | refine blk_drew ?_ | refine blk_alloc ?_ _)); exact BK239.out)⟩; have n2_ : Aside0 (w25.heap[gb240]? = some (.cells #[.int .i64 (wrap64 ((wrap64 (2 * t241)) + t242)), .int .i64 t244, .int .i64 (wrap64 ((wrap64 (4 + a0_3)) + a0_1)), .int .i64 0, .int .i64 0, .int .i64 0, .int .i64 0, .int .i64 0, .int .i64 0, .int .i64 0, .int .i64 0] 35 (0, 0))) := ⟨by rw [← hq_]; exact (by (with_reducible repeat (first | refine blk_drewN ?_ _ | refine blk_drew ?_ | refine blk_alloc ?_ _)); exact BK240.out)⟩; have n3_ : Aside0 (Below w.heap.size w w25) := ⟨by rw [← hq_]; exact (by repeat (first | (with_reducible first | exact HB.out | apply below_alloc | apply pw_below_drewN | apply below_drew1 | refine below_set ?_ GE238.out | refine below_set ?_ GE239.out | refine below_set ?_ GE240.out) | exact HB.out))⟩; clear BK238 BK239 BK240 HB hq_; have BK238 := n0_; have BK239 := n1_; have BK240 := n2_; have HB := n3_; clear n0_ n1_ n2_ n3_))
 have n0_ := Aside0.mk (blk_drew BK238.out)
 have n1_ := Aside0.mk (blk_drew BK239.out)
 have n2_ := Aside0.mk (blk_drew BK240.out)
 have n3_ := Aside0.mk (below_drew1 HB.out)
 clear BK238
 clear BK239
 clear BK240
 clear HB
 have BK238 := n0_
 have BK239 := n1_
 have BK240 := n2_
 have HB := n3_
 clear n0_ n1_ n2_ n3_
 refine start_ (n := 8) (S := fun w' => w'.cell? ⟨gb238, 0, none⟩ = some (.int .i64 a0_0) ∧ w'.cell? ⟨gb238, 1, none⟩ = some (.int .i64 a0_1) ∧ w'.cell? ⟨gb238, 2, none⟩ = some (.int .i64 a0_2) ∧ w'.cell? ⟨gb238, 3, none⟩ = some (.int .i64 a0_3) ∧ w'.cell? ⟨gb238, 4, none⟩ = some (.int .i64 a0_4) ∧ w'.cell? ⟨gb238, 5, none⟩ = some (.int .i64 a0_5) ∧ w'.cell? ⟨gb238, 6, none⟩ = some (.bool a0_6)) (ds := []) #[false, false, false, false, false, false, false, false] (by kernel_rfl) rfl rfl ⟨(blk_cell BK238.out 0).trans rfl, (blk_cell BK238.out 1).trans rfl, (blk_cell BK238.out 2).trans rfl, (blk_cell BK238.out 3).trans rfl, (blk_cell BK238.out 4).trans rfl, (blk_cell BK238.out 5).trans rfl, (blk_cell BK238.out 6).trans rfl⟩ (fun hHeld => ?_); refine with_tabW ferruleref16_Of.tab6 ferruleref16_Of.bits6 (fun HT_ HW_ => ?_)
 generalize w25.drew = w26 at BK238 BK239 BK240 HB hHeld ⊢
 refine pure_ (i := 0) (N := some 39) (v := ?_) (a' := ?_) #[true, false, false, false, false, false, false, false] rfl rfl (any_of HT_.out (by kernel_rfl)) (fun _ _ _ h => h) (Or.inl ⟨by rfl, ?_⟩) ?_ ?_
 rotate_left
 {
 intro w'
 go_simp
 with_reducible rfl
 }
 rotate_left
 {
 simp only [Act.put, List.setIfInBounds_toArray, List.set_cons_zero, List.set_cons_succ, i64_w, i32_w]
 rfl
 }
 refine pure_ (i := 2) (N := some 41) (v := ?_) (a' := ?_) #[true, false, true, false, false, false, false, false] rfl rfl (any_of HT_.out (by kernel_rfl)) (fun _ _ _ h => h) (Or.inl ⟨by rfl, ?_⟩) ?_ ?_
 rotate_left
 {
 intro w'
 go_simp
 with_reducible rfl
 }
 rotate_left
 {
 simp only [Act.put, List.setIfInBounds_toArray, List.set_cons_zero, List.set_cons_succ, i64_w, i32_w]
 rfl
 }
 refine pure_ (i := 5) (N := some 44) (v := ?_) (a' := ?_) #[true, false, true, false, false, true, false, false] rfl rfl (any_of HT_.out (by kernel_rfl)) (fun _ _ _ h => h) (Or.inl ⟨by rfl, ?_⟩) ?_ ?_
 rotate_left
 {
 intro w'
 go_simp
 with_reducible rfl
 }
 rotate_left
 {
 simp only [Act.put, List.setIfInBounds_toArray, List.set_cons_zero, List.set_cons_succ, i64_w, i32_w]
 rfl
 }
 refine take_ (i := 1) (N := some 40) (v := ?_) (a' := ?_) #[true, true, true, false, false, true, false, false] rfl rfl (take_ofW HT_.out HW_.out (by kernel_rfl)) (fun _ _ _ h => h) (Or.inl ⟨by rfl, ?_⟩) hHeld ?_ ?_
 rotate_left
 {
 rintro w' ⟨s0, s1, s2, s3, s4, s5, s6⟩
 go_simp
 with_reducible rfl
 }
 rotate_left
 {
 simp only [Act.put, List.setIfInBounds_toArray, List.set_cons_zero, List.set_cons_succ, i64_w, i32_w]
 rfl
 }
 refine take_ (i := 3) (N := some 42) (v := ?_) (a' := ?_) #[true, true, true, true, false, true, false, false] rfl rfl (take_ofW HT_.out HW_.out (by kernel_rfl)) (fun _ _ _ h => h) (Or.inl ⟨by rfl, ?_⟩) hHeld ?_ ?_
 rotate_left
 {
 rintro w' ⟨s0, s1, s2, s3, s4, s5, s6⟩
 go_simp
 with_reducible rfl
 }
 rotate_left
 {
 simp only [Act.put, List.setIfInBounds_toArray, List.set_cons_zero, List.set_cons_succ, i64_w, i32_w]
 rfl
 }
 refine take_ (i := 6) (N := some 45) (v := ?_) (a' := ?_) #[true, true, true, true, false, true, true, false] rfl rfl (take_ofW HT_.out HW_.out (by kernel_rfl)) (fun _ _ _ h => h) (Or.inl ⟨by rfl, ?_⟩) hHeld ?_ ?_
 rotate_left
 {
 rintro w' ⟨s0, s1, s2, s3, s4, s5, s6⟩
 go_simp
 with_reducible rfl
 }
 rotate_left
 {
 simp only [Act.put, List.setIfInBounds_toArray, List.set_cons_zero, List.set_cons_succ, i64_w, i32_w]
 rfl
 }
 refine one_ (i := 4) (N := some 43) #[true, true, true, true, true, true, true, false] rfl rfl (one_of HT_.out (by kernel_rfl)) (by decide) (fun K hK => ?_)
 refine goes_ Try.func27 (by kernel_rfl) rfl #[.int .i64 a0_2, .int .i64 a0_1] (by rfl) rfl rfl (by (try simp only [List.map_toArray, List.map_cons, List.map_nil]); first | done | rfl | (simp only [List.length_drop, List.length_take]; rfl)) ?_
 with_reducible refine (ferruleref16_Up.calls a0_2 a0_1 t245 _ A6.out).mono ?_
 rintro e w' ⟨rfl, ⟨nd, rfl⟩⟩
 refine ⟨_, rfl, ?_⟩
 refine hK.out _ _ ⟨(blk_cell BK238.out 0).trans rfl, (blk_cell BK238.out 1).trans rfl, (blk_cell BK238.out 2).trans rfl, (blk_cell BK238.out 3).trans rfl, (blk_cell BK238.out 4).trans rfl, (blk_cell BK238.out 5).trans rfl, (blk_cell BK238.out 6).trans rfl⟩ (fun hHeld => ?_)
 clear hK K
 refine norm_ (a' := ?_) ?_ ?_
 rotate_left
 {
 show Act.put _ (some 43) _ = _
 simp only [Act.put, List.setIfInBounds_toArray, List.set_cons_zero, List.set_cons_succ, i64_w, i32_w]
 rfl
 }
 refine pure_ (i := 7) (N := some 46) (v := ?_) (a' := ?_) #[true, true, true, true, true, true, true, true] rfl rfl (any_of HT_.out (by kernel_rfl)) (fun _ _ _ h => h) (Or.inl ⟨by rfl, ?_⟩) ?_ ?_
 rotate_left
 {
 intro w'
 go_simp
 with_reducible rfl
 }
 rotate_left
 {
 simp only [Act.put, List.setIfInBounds_toArray, List.set_cons_zero, List.set_cons_succ, i64_w, i32_w]
 rfl
 }
 refine done_ (done_of HT_.out (by kernel_rfl)) ?_
 go_upto_if 46 with (fail)
 go_cut [] (fun wc => ∃ (kq : Nat) (x241002_6 : Int), Aside0 (ferruleref16_Of.j0 kq (wrap64 (a0_0 * a0_1)) a0_0 a0_1 a0_2 a0_3 a0_4 a0_5 a0_6 (wrap64 ((wrap64 (2 * t241)) + t242)) t244 x241002_6 0 0 0 0 0 0 0 0 = some (r1, r2, r3, r4, r5, r6, r7, r8, r9, r10, r11)) ∧ Aside0 (kq ≤ k) ∧ Aside0 (wc.heap[gb238]? = some (.cells #[.int .i64 a0_0, .int .i64 a0_1, .int .i64 a0_2, .int .i64 a0_3, .int .i64 a0_4, .int .i64 a0_5, .bool a0_6] 29 (0, 0))) ∧ Aside0 (wc.heap[gb239]? = some (.cells #[.int .i64 0, .int .i64 0, .int .i64 0, .int .i64 0, .int .i64 0, .int .i64 0, .int .i64 0, .int .i64 0, .int .i64 0, .int .i64 0, .int .i64 0] 35 (0, 0))) ∧ Aside0 (wc.heap[gb240]? = some (.cells #[.int .i64 (wrap64 ((wrap64 (2 * t241)) + t242)), .int .i64 t244, .int .i64 x241002_6, .int .i64 0, .int .i64 0, .int .i64 0, .int .i64 0, .int .i64 0, .int .i64 0, .int .i64 0, .int .i64 0] 35 (0, 0))) ∧ Aside0 (Below w.heap.size w wc))
 case first =>
  have H := HC7.out
  clear HC7
  (try (rw [drewN_self w26]; generalize hq_ : World.drewN w26 _ = w26; have n0_ : Aside0 (w26.heap[gb238]? = some (.cells #[.int .i64 a0_0, .int .i64 a0_1, .int .i64 a0_2, .int .i64 a0_3, .int .i64 a0_4, .int .i64 a0_5, .bool a0_6] 29 (0, 0))) := ⟨by rw [← hq_]; exact (by (with_reducible repeat (first | refine blk_drewN ?_ _ | refine blk_drew ?_ | refine blk_alloc ?_ _)); exact BK238.out)⟩; have n1_ : Aside0 (w26.heap[gb239]? = some (.cells #[.int .i64 0, .int .i64 0, .int .i64 0, .int .i64 0, .int .i64 0, .int .i64 0, .int .i64 0, .int .i64 0, .int .i64 0, .int .i64 0, .int .i64 0] 35 (0, 0))) := ⟨by rw [← hq_]; exact (by (with_reducible repeat (first | refine blk_drewN ?_ _ | refine blk_drew ?_ | refine blk_alloc ?_ _)); exact BK239.out)⟩; have n2_ : Aside0 (w26.heap[gb240]? = some (.cells #[.int .i64 (wrap64 ((wrap64 (2 * t241)) + t242)), .int .i64 t244, .int .i64 (wrap64 ((wrap64 (4 + a0_3)) + a0_1)), .int .i64 0, .int .i64 0, .int .i64 0, .int .i64 0, .int .i64 0, .int .i64 0, .int .i64 0, .int .i64 0] 35 (0, 0))) := ⟨by rw [← hq_]; exact (by (with_reducible repeat (first | refine blk_drewN ?_ _ | refine blk_drew ?_ | refine blk_alloc ?_ _)); exact BK240.out)⟩; have n3_ : Aside0 (Below w.heap.size w w26) := ⟨by rw [← hq_]; exact (by repeat (first | (with_reducible first | exact HB.out | apply below_alloc | apply pw_below_drewN | apply below_drew1 | refine below_set ?_ GE238.out | refine below_set ?_ GE239.out | refine below_set ?_ GE240.out) | exact HB.out))⟩; clear BK238 BK239 BK240 HB hq_; have BK238 := n0_; have BK239 := n1_; have BK240 := n2_; have HB := n3_; clear n0_ n1_ n2_ n3_))
  by_cases c27 : t245 > a0_1
  {
  rw [if_pos c27] at H
  have c27b0 : decide (a0_1 < t245) = true := decide_eq_true c27
  clear c27
  (first | rw [c27b0] | (simp only [i64_w, i32_w]; rw [c27b0]) | skip)
  replace H := Option.bind_eq_some_iff.mp H
  obtain ⟨t246, A280, H⟩ := H
  replace H : (ferruleref16_Of.j0 k (wrap64 (a0_0 * a0_1)) a0_0 a0_1 a0_2 a0_3 a0_4 a0_5 a0_6 (wrap64 ((wrap64 (2 * t241)) + t242)) t244 (wrap64 ((wrap64 (4 + a0_3)) + t246)) 0 0 0 0 0 0 0 0) = some (r1, r2, r3, r4, r5, r6, r7, r8, r9, r10, r11) := H
  have A28 := Aside0.mk A280
  clear A280
  have H' := Aside0.mk H
  clear H
  try go_wp2
  have n0_ := Aside0.mk (blk_drew BK238.out)
  have n1_ := Aside0.mk (blk_drew BK239.out)
  have n2_ := Aside0.mk (blk_drew BK240.out)
  have n3_ := Aside0.mk (below_drew1 HB.out)
  clear BK238
  clear BK239
  clear BK240
  clear HB
  have BK238 := n0_
  have BK239 := n1_
  have BK240 := n2_
  have HB := n3_
  clear n0_ n1_ n2_ n3_
  refine start_ (n := 11) (S := fun w' => w'.cell? ⟨gb238, 0, none⟩ = some (.int .i64 a0_0) ∧ w'.cell? ⟨gb238, 1, none⟩ = some (.int .i64 a0_1) ∧ w'.cell? ⟨gb238, 2, none⟩ = some (.int .i64 a0_2) ∧ w'.cell? ⟨gb238, 3, none⟩ = some (.int .i64 a0_3) ∧ w'.cell? ⟨gb238, 4, none⟩ = some (.int .i64 a0_4) ∧ w'.cell? ⟨gb238, 5, none⟩ = some (.int .i64 a0_5) ∧ w'.cell? ⟨gb238, 6, none⟩ = some (.bool a0_6)) (ds := []) #[false, false, false, false, false, false, false, false, false, false, false] (by kernel_rfl) rfl rfl ⟨(blk_cell BK238.out 0).trans rfl, (blk_cell BK238.out 1).trans rfl, (blk_cell BK238.out 2).trans rfl, (blk_cell BK238.out 3).trans rfl, (blk_cell BK238.out 4).trans rfl, (blk_cell BK238.out 5).trans rfl, (blk_cell BK238.out 6).trans rfl⟩ (fun hHeld => ?_); refine with_tabW ferruleref16_Of.tab7 ferruleref16_Of.bits7 (fun HT_ HW_ => ?_)
  generalize w26.drew = w29 at BK238 BK239 BK240 HB hHeld ⊢
  refine pure_ (i := 0) (N := some 47) (v := ?_) (a' := ?_) #[true, false, false, false, false, false, false, false, false, false, false] rfl rfl (any_of HT_.out (by kernel_rfl)) (fun _ _ _ h => h) (Or.inl ⟨by rfl, ?_⟩) ?_ ?_
  rotate_left
  {
  intro w'
  go_simp
  with_reducible rfl
  }
  rotate_left
  {
  simp only [Act.put, List.setIfInBounds_toArray, List.set_cons_zero, List.set_cons_succ, i64_w, i32_w]
  rfl
  }
  refine pure_ (i := 3) (N := some 50) (v := ?_) (a' := ?_) #[true, false, false, true, false, false, false, false, false, false, false] rfl rfl (any_of HT_.out (by kernel_rfl)) (fun _ _ _ h => h) (Or.inl ⟨by rfl, ?_⟩) ?_ ?_
  rotate_left
  {
  intro w'
  go_simp
  with_reducible rfl
  }
  rotate_left
  {
  simp only [Act.put, List.setIfInBounds_toArray, List.set_cons_zero, List.set_cons_succ, i64_w, i32_w]
  rfl
  }
  refine pure_ (i := 5) (N := some 52) (v := ?_) (a' := ?_) #[true, false, false, true, false, true, false, false, false, false, false] rfl rfl (any_of HT_.out (by kernel_rfl)) (fun _ _ _ h => h) (Or.inl ⟨by rfl, ?_⟩) ?_ ?_
  rotate_left
  {
  intro w'
  go_simp
  with_reducible rfl
  }
  rotate_left
  {
  simp only [Act.put, List.setIfInBounds_toArray, List.set_cons_zero, List.set_cons_succ, i64_w, i32_w]
  rfl
  }
  refine take_ (i := 1) (N := some 48) (v := ?_) (a' := ?_) #[true, true, false, true, false, true, false, false, false, false, false] rfl rfl (take_ofW HT_.out HW_.out (by kernel_rfl)) (fun _ _ _ h => h) (Or.inl ⟨by rfl, ?_⟩) hHeld ?_ ?_
  rotate_left
  {
  rintro w' ⟨s0, s1, s2, s3, s4, s5, s6⟩
  go_simp
  with_reducible rfl
  }
  rotate_left
  {
  simp only [Act.put, List.setIfInBounds_toArray, List.set_cons_zero, List.set_cons_succ, i64_w, i32_w]
  rfl
  }
  refine pure_ (i := 2) (N := some 49) (v := ?_) (a' := ?_) #[true, true, true, true, false, true, false, false, false, false, false] rfl rfl (any_of HT_.out (by kernel_rfl)) (fun _ _ _ h => h) (Or.inl ⟨by rfl, ?_⟩) ?_ ?_
  rotate_left
  {
  intro w'
  go_simp
  with_reducible rfl
  }
  rotate_left
  {
  simp only [Act.put, List.setIfInBounds_toArray, List.set_cons_zero, List.set_cons_succ, i64_w, i32_w]
  rfl
  }
  refine take_ (i := 4) (N := some 51) (v := ?_) (a' := ?_) #[true, true, true, true, true, true, false, false, false, false, false] rfl rfl (take_ofW HT_.out HW_.out (by kernel_rfl)) (fun _ _ _ h => h) (Or.inl ⟨by rfl, ?_⟩) hHeld ?_ ?_
  rotate_left
  {
  rintro w' ⟨s0, s1, s2, s3, s4, s5, s6⟩
  go_simp
  with_reducible rfl
  }
  rotate_left
  {
  simp only [Act.put, List.setIfInBounds_toArray, List.set_cons_zero, List.set_cons_succ, i64_w, i32_w]
  rfl
  }
  refine take_ (i := 6) (N := some 53) (v := ?_) (a' := ?_) #[true, true, true, true, true, true, true, false, false, false, false] rfl rfl (take_ofW HT_.out HW_.out (by kernel_rfl)) (fun _ _ _ h => h) (Or.inl ⟨by rfl, ?_⟩) hHeld ?_ ?_
  rotate_left
  {
  rintro w' ⟨s0, s1, s2, s3, s4, s5, s6⟩
  go_simp
  with_reducible rfl
  }
  rotate_left
  {
  simp only [Act.put, List.setIfInBounds_toArray, List.set_cons_zero, List.set_cons_succ, i64_w, i32_w]
  rfl
  }
  refine one_ (i := 7) (N := some 54) #[true, true, true, true, true, true, true, true, false, false, false] rfl rfl (one_of HT_.out (by kernel_rfl)) (by decide) (fun K hK => ?_)
  refine goes_ Try.func27 (by kernel_rfl) rfl #[.int .i64 a0_2, .int .i64 a0_1] (by rfl) rfl rfl (by (try simp only [List.map_toArray, List.map_cons, List.map_nil]); first | done | rfl | (simp only [List.length_drop, List.length_take]; rfl)) ?_
  with_reducible refine (ferruleref16_Up.calls a0_2 a0_1 t246 _ A28.out).mono ?_
  rintro e w' ⟨rfl, ⟨nd, rfl⟩⟩
  refine ⟨_, rfl, ?_⟩
  refine hK.out _ _ ⟨(blk_cell BK238.out 0).trans rfl, (blk_cell BK238.out 1).trans rfl, (blk_cell BK238.out 2).trans rfl, (blk_cell BK238.out 3).trans rfl, (blk_cell BK238.out 4).trans rfl, (blk_cell BK238.out 5).trans rfl, (blk_cell BK238.out 6).trans rfl⟩ (fun hHeld => ?_)
  clear hK K
  refine norm_ (a' := ?_) ?_ ?_
  rotate_left
  {
  show Act.put _ (some 54) _ = _
  simp only [Act.put, List.setIfInBounds_toArray, List.set_cons_zero, List.set_cons_succ, i64_w, i32_w]
  rfl
  }
  refine pure_ (i := 8) (N := some 55) (v := ?_) (a' := ?_) #[true, true, true, true, true, true, true, true, true, false, false] rfl rfl (any_of HT_.out (by kernel_rfl)) (fun _ _ _ h => h) (Or.inl ⟨by rfl, ?_⟩) ?_ ?_
  rotate_left
  {
  intro w'
  go_simp
  with_reducible rfl
  }
  rotate_left
  {
  simp only [Act.put, List.setIfInBounds_toArray, List.set_cons_zero, List.set_cons_succ, i64_w, i32_w]
  rfl
  }
  refine pure_ (i := 9) (N := some 56) (v := ?_) (a' := ?_) #[true, true, true, true, true, true, true, true, true, true, false] rfl rfl (any_of HT_.out (by kernel_rfl)) (fun _ _ _ h => h) (Or.inl ⟨by rfl, ?_⟩) ?_ ?_
  rotate_left
  {
  intro w'
  go_simp
  with_reducible rfl
  }
  rotate_left
  {
  simp only [Act.put, List.setIfInBounds_toArray, List.set_cons_zero, List.set_cons_succ, i64_w, i32_w]
  rfl
  }
  refine one_ (i := 10) (N := none) #[true, true, true, true, true, true, true, true, true, true, true] rfl rfl (one_of HT_.out (by kernel_rfl)) (by decide) (fun K hK => ?_)
  have hs30 : w29.cell? ⟨gb240, 2, none⟩ = some (.int .i64 (wrap64 ((wrap64 (4 + a0_3)) + a0_1))) := (blk_cell BK240.out 2).trans rfl
  have hfs30 := blk_frozen BK240.out 2
  have hns30_0 := NB238_240.out
  have hns30_1 := NB239_240.out
  have hms30_0 := NB240_238.out
  have hms30_1 := NB240_239.out
  refine skip_ (w1 := ?_) (by rfl) rfl ?_ ?_
  rotate_left
  {
  go_simp
  rfl
  }
  refine hK.out _ _ ⟨((cell_far (p := ⟨gb240, _, none⟩) NB238_240.out _).trans (hHeld.1)), ((cell_far (p := ⟨gb240, _, none⟩) NB238_240.out _).trans (hHeld.2.1)), ((cell_far (p := ⟨gb240, _, none⟩) NB238_240.out _).trans (hHeld.2.2.1)), ((cell_far (p := ⟨gb240, _, none⟩) NB238_240.out _).trans (hHeld.2.2.2.1)), ((cell_far (p := ⟨gb240, _, none⟩) NB238_240.out _).trans (hHeld.2.2.2.2.1)), ((cell_far (p := ⟨gb240, _, none⟩) NB238_240.out _).trans (hHeld.2.2.2.2.2.1)), ((cell_far (p := ⟨gb240, _, none⟩) NB238_240.out _).trans (hHeld.2.2.2.2.2.2))⟩ (fun hHeld => ?_)
  clear hK K
  refine done_ (done_of HT_.out (by kernel_rfl)) ?_
  try go_wp2
  go_meet
  case rel => exact ⟨_, (wrap64 ((wrap64 (4 + a0_3)) + t246)), H', ⟨by first | omega | exact Nat.le_refl _⟩, ⟨by (with_reducible repeat (first | refine blk_drewN ?_ _ | refine blk_drew ?_ | refine blk_alloc ?_ _)); refine blk_far ?_ NB238_240.out _; (with_reducible repeat (first | refine blk_drewN ?_ _ | refine blk_drew ?_ | refine blk_alloc ?_ _)); exact BK238.out⟩, ⟨by (with_reducible repeat (first | refine blk_drewN ?_ _ | refine blk_drew ?_ | refine blk_alloc ?_ _)); refine blk_far ?_ NB239_240.out _; (with_reducible repeat (first | refine blk_drewN ?_ _ | refine blk_drew ?_ | refine blk_alloc ?_ _)); exact BK239.out⟩, ⟨by (with_reducible repeat (first | refine blk_drewN ?_ _ | refine blk_drew ?_ | refine blk_alloc ?_ _)); refine blk_put (cs := #[.int .i64 (wrap64 ((wrap64 (2 * t241)) + t242)), .int .i64 t244, .int .i64 (wrap64 ((wrap64 (4 + a0_3)) + a0_1)), .int .i64 0, .int .i64 0, .int .i64 0, .int .i64 0, .int .i64 0, .int .i64 0, .int .i64 0, .int .i64 0]) ?_ 2 _ rfl; (with_reducible repeat (first | refine blk_drewN ?_ _ | refine blk_drew ?_ | refine blk_alloc ?_ _)); exact BK240.out⟩, ⟨by repeat (first | (with_reducible first | exact HB.out | apply below_alloc | apply pw_below_drewN | apply below_drew1 | refine below_set ?_ GE238.out | refine below_set ?_ GE239.out | refine below_set ?_ GE240.out) | exact HB.out)⟩⟩
  }
  {
  rw [if_neg c27] at H
  have c27b0 : decide (a0_1 < t245) = false := decide_eq_false c27
  clear c27
  (first | rw [c27b0] | (simp only [i64_w, i32_w]; rw [c27b0]) | skip)
  have H' := Aside0.mk H
  clear H
  go_wp2
  go_meet
  case rel => exact ⟨_, (wrap64 ((wrap64 (4 + a0_3)) + a0_1)), H', ⟨by first | omega | exact Nat.le_refl _⟩, ⟨by (with_reducible repeat (first | refine blk_drewN ?_ _ | refine blk_drew ?_ | refine blk_alloc ?_ _)); exact BK238.out⟩, ⟨by (with_reducible repeat (first | refine blk_drewN ?_ _ | refine blk_drew ?_ | refine blk_alloc ?_ _)); exact BK239.out⟩, ⟨by (with_reducible repeat (first | refine blk_drewN ?_ _ | refine blk_drew ?_ | refine blk_alloc ?_ _)); exact BK240.out⟩, ⟨by repeat (first | (with_reducible first | exact HB.out | apply below_alloc | apply pw_below_drewN | apply below_drew1 | refine below_set ?_ GE238.out | refine below_set ?_ GE239.out | refine below_set ?_ GE240.out) | exact HB.out)⟩⟩
  }
 case rest =>
  clear HC7
  try clear c1
  try clear c2
  try clear p2
  try clear p6
  try clear c11
  try clear c12
  try clear c14
  try clear c15
  try clear c25
  try clear c26
  try clear c27
  try clear c27b0
  try clear hcz13_0
  try clear hcz13_1
  try clear hcz13_10
  try clear hcz13_2
  try clear hcz13_3
  try clear hcz13_4
  try clear hcz13_5
  try clear hcz13_6
  try clear hcz13_7
  try clear hcz13_8
  try clear hcz13_9
  try clear hcz15_0
  try clear hcz15_1
  try clear hcz15_2
  try clear hcz15_3
  try clear hcz15_4
  try clear hcz15_5
  try clear hcz15_6
  try clear hcz18_0
  try clear hcz18_1
  try clear hcz18_10
  try clear hcz18_2
  try clear hcz18_3
  try clear hcz18_4
  try clear hcz18_5
  try clear hcz18_6
  try clear hcz18_7
  try clear hcz18_8
  try clear hcz18_9
  try clear hcz23_0
  try clear hcz23_1
  try clear hcz23_2
  try clear hcz23_3
  try clear hcz23_4
  try clear hcz23_5
  try clear hcz23_6
  try clear hcz24_0
  try clear hcz24_1
  try clear hcz24_10
  try clear hcz24_2
  try clear hcz24_3
  try clear hcz24_4
  try clear hcz24_5
  try clear hcz24_6
  try clear hcz24_7
  try clear hcz24_8
  try clear hcz24_9
  try clear hfz13_0
  try clear hfz13_1
  try clear hfz13_10
  try clear hfz13_2
  try clear hfz13_3
  try clear hfz13_4
  try clear hfz13_5
  try clear hfz13_6
  try clear hfz13_7
  try clear hfz13_8
  try clear hfz13_9
  try clear hfz15_0
  try clear hfz15_1
  try clear hfz15_2
  try clear hfz15_3
  try clear hfz15_4
  try clear hfz15_5
  try clear hfz15_6
  try clear hfz18_0
  try clear hfz18_1
  try clear hfz18_10
  try clear hfz18_2
  try clear hfz18_3
  try clear hfz18_4
  try clear hfz18_5
  try clear hfz18_6
  try clear hfz18_7
  try clear hfz18_8
  try clear hfz18_9
  try clear hfz23_0
  try clear hfz23_1
  try clear hfz23_2
  try clear hfz23_3
  try clear hfz23_4
  try clear hfz23_5
  try clear hfz23_6
  try clear hfz24_0
  try clear hfz24_1
  try clear hfz24_10
  try clear hfz24_2
  try clear hfz24_3
  try clear hfz24_4
  try clear hfz24_5
  try clear hfz24_6
  try clear hfz24_7
  try clear hfz24_8
  try clear hfz24_9
  obtain ⟨kq, x241002_6, HA, HJ6, BK238, BK239, BK240, HB⟩ := hcut
  cases kq with
  | zero => exact absurd HA.out (by simp [ferruleref16_Of.j0])
  | succ kj6 =>
    have H := HA.out
    clear HA
    simp only [ferruleref16_Of.j0] at H
    replace H := Option.bind_eq_some_iff.mp H
    obtain ⟨t247, A310, H⟩ := H
    replace H : ((ferruleref16_l.f kj6 a0_2).bind fun t248 => ((ferruleref16_l.f kj6 (wrap64 ((wrap64 (2 * (wrap64 (a0_0 * a0_1)))) + 3))).bind fun t249 => ((ferruleref16_l.f kj6 x241002_6).bind fun t250 => ((ferruleref12_Pages.f kj6 (wrap64 (t250 + (wrap64 (x241002_6 * (wrap64 ((wrap64 (t247 + t248)) + t249))))))).bind fun t251 => ((ferruleref16_Up.f (wrap64 (t244 + (wrap64 ((wrap64 ((wrap64 (2 * t251)) + a0_1)) + t244)))) a0_1).bind fun t252 => ((ferruleref16_Up.f t244 a0_1).bind fun t253 => ((ferruleref16_Up.f a0_2 a0_5).bind fun t254 => ((ferruleref16_Up.f a0_2 a0_1).bind fun t255 => (some ((wrap64 ((wrap64 (2 * t241)) + t242)), t244, x241002_6, wrap64 ((wrap64 (t247 + t248)) + t249), t251, wrap64 ((wrap64 ((wrap64 (2 * t251)) + a0_1)) + t244), t252, wrap64 ((wrap64 (t252 + t253)) + 3), t254, wrap64 ((wrap64 (t255 + 8)) + (wrap64 (4 * a0_3))), wrap64 (a0_0 + (wrap64 ((wrap64 (2 * a0_1)) * (wrap64 ((wrap64 (t252 + 2)) + a0_3))))))))))))))) = some (r1, r2, r3, r4, r5, r6, r7, r8, r9, r10, r11) := H
    have A31 := Aside0.mk A310
    clear A310
    replace H := Option.bind_eq_some_iff.mp H
    obtain ⟨t248, A320, H⟩ := H
    replace H : ((ferruleref16_l.f kj6 (wrap64 ((wrap64 (2 * (wrap64 (a0_0 * a0_1)))) + 3))).bind fun t249 => ((ferruleref16_l.f kj6 x241002_6).bind fun t250 => ((ferruleref12_Pages.f kj6 (wrap64 (t250 + (wrap64 (x241002_6 * (wrap64 ((wrap64 (t247 + t248)) + t249))))))).bind fun t251 => ((ferruleref16_Up.f (wrap64 (t244 + (wrap64 ((wrap64 ((wrap64 (2 * t251)) + a0_1)) + t244)))) a0_1).bind fun t252 => ((ferruleref16_Up.f t244 a0_1).bind fun t253 => ((ferruleref16_Up.f a0_2 a0_5).bind fun t254 => ((ferruleref16_Up.f a0_2 a0_1).bind fun t255 => (some ((wrap64 ((wrap64 (2 * t241)) + t242)), t244, x241002_6, wrap64 ((wrap64 (t247 + t248)) + t249), t251, wrap64 ((wrap64 ((wrap64 (2 * t251)) + a0_1)) + t244), t252, wrap64 ((wrap64 (t252 + t253)) + 3), t254, wrap64 ((wrap64 (t255 + 8)) + (wrap64 (4 * a0_3))), wrap64 (a0_0 + (wrap64 ((wrap64 (2 * a0_1)) * (wrap64 ((wrap64 (t252 + 2)) + a0_3)))))))))))))) = some (r1, r2, r3, r4, r5, r6, r7, r8, r9, r10, r11) := H
    have A32 := Aside0.mk A320
    clear A320
    replace H := Option.bind_eq_some_iff.mp H
    obtain ⟨t249, A330, H⟩ := H
    replace H : ((ferruleref16_l.f kj6 x241002_6).bind fun t250 => ((ferruleref12_Pages.f kj6 (wrap64 (t250 + (wrap64 (x241002_6 * (wrap64 ((wrap64 (t247 + t248)) + t249))))))).bind fun t251 => ((ferruleref16_Up.f (wrap64 (t244 + (wrap64 ((wrap64 ((wrap64 (2 * t251)) + a0_1)) + t244)))) a0_1).bind fun t252 => ((ferruleref16_Up.f t244 a0_1).bind fun t253 => ((ferruleref16_Up.f a0_2 a0_5).bind fun t254 => ((ferruleref16_Up.f a0_2 a0_1).bind fun t255 => (some ((wrap64 ((wrap64 (2 * t241)) + t242)), t244, x241002_6, wrap64 ((wrap64 (t247 + t248)) + t249), t251, wrap64 ((wrap64 ((wrap64 (2 * t251)) + a0_1)) + t244), t252, wrap64 ((wrap64 (t252 + t253)) + 3), t254, wrap64 ((wrap64 (t255 + 8)) + (wrap64 (4 * a0_3))), wrap64 (a0_0 + (wrap64 ((wrap64 (2 * a0_1)) * (wrap64 ((wrap64 (t252 + 2)) + a0_3))))))))))))) = some (r1, r2, r3, r4, r5, r6, r7, r8, r9, r10, r11) := H
    have A33 := Aside0.mk A330
    clear A330
    replace H := Option.bind_eq_some_iff.mp H
    obtain ⟨t250, A340, H⟩ := H
    replace H : ((ferruleref12_Pages.f kj6 (wrap64 (t250 + (wrap64 (x241002_6 * (wrap64 ((wrap64 (t247 + t248)) + t249))))))).bind fun t251 => ((ferruleref16_Up.f (wrap64 (t244 + (wrap64 ((wrap64 ((wrap64 (2 * t251)) + a0_1)) + t244)))) a0_1).bind fun t252 => ((ferruleref16_Up.f t244 a0_1).bind fun t253 => ((ferruleref16_Up.f a0_2 a0_5).bind fun t254 => ((ferruleref16_Up.f a0_2 a0_1).bind fun t255 => (some ((wrap64 ((wrap64 (2 * t241)) + t242)), t244, x241002_6, wrap64 ((wrap64 (t247 + t248)) + t249), t251, wrap64 ((wrap64 ((wrap64 (2 * t251)) + a0_1)) + t244), t252, wrap64 ((wrap64 (t252 + t253)) + 3), t254, wrap64 ((wrap64 (t255 + 8)) + (wrap64 (4 * a0_3))), wrap64 (a0_0 + (wrap64 ((wrap64 (2 * a0_1)) * (wrap64 ((wrap64 (t252 + 2)) + a0_3)))))))))))) = some (r1, r2, r3, r4, r5, r6, r7, r8, r9, r10, r11) := H
    have A34 := Aside0.mk A340
    clear A340
    replace H := Option.bind_eq_some_iff.mp H
    obtain ⟨t251, A350, H⟩ := H
    replace H : ((ferruleref16_Up.f (wrap64 (t244 + (wrap64 ((wrap64 ((wrap64 (2 * t251)) + a0_1)) + t244)))) a0_1).bind fun t252 => ((ferruleref16_Up.f t244 a0_1).bind fun t253 => ((ferruleref16_Up.f a0_2 a0_5).bind fun t254 => ((ferruleref16_Up.f a0_2 a0_1).bind fun t255 => (some ((wrap64 ((wrap64 (2 * t241)) + t242)), t244, x241002_6, wrap64 ((wrap64 (t247 + t248)) + t249), t251, wrap64 ((wrap64 ((wrap64 (2 * t251)) + a0_1)) + t244), t252, wrap64 ((wrap64 (t252 + t253)) + 3), t254, wrap64 ((wrap64 (t255 + 8)) + (wrap64 (4 * a0_3))), wrap64 (a0_0 + (wrap64 ((wrap64 (2 * a0_1)) * (wrap64 ((wrap64 (t252 + 2)) + a0_3))))))))))) = some (r1, r2, r3, r4, r5, r6, r7, r8, r9, r10, r11) := H
    have A35 := Aside0.mk A350
    clear A350
    replace H := Option.bind_eq_some_iff.mp H
    obtain ⟨t252, A360, H⟩ := H
    replace H : ((ferruleref16_Up.f t244 a0_1).bind fun t253 => ((ferruleref16_Up.f a0_2 a0_5).bind fun t254 => ((ferruleref16_Up.f a0_2 a0_1).bind fun t255 => (some ((wrap64 ((wrap64 (2 * t241)) + t242)), t244, x241002_6, wrap64 ((wrap64 (t247 + t248)) + t249), t251, wrap64 ((wrap64 ((wrap64 (2 * t251)) + a0_1)) + t244), t252, wrap64 ((wrap64 (t252 + t253)) + 3), t254, wrap64 ((wrap64 (t255 + 8)) + (wrap64 (4 * a0_3))), wrap64 (a0_0 + (wrap64 ((wrap64 (2 * a0_1)) * (wrap64 ((wrap64 (t252 + 2)) + a0_3)))))))))) = some (r1, r2, r3, r4, r5, r6, r7, r8, r9, r10, r11) := H
    have A36 := Aside0.mk A360
    clear A360
    replace H := Option.bind_eq_some_iff.mp H
    obtain ⟨t253, A370, H⟩ := H
    replace H : ((ferruleref16_Up.f a0_2 a0_5).bind fun t254 => ((ferruleref16_Up.f a0_2 a0_1).bind fun t255 => (some ((wrap64 ((wrap64 (2 * t241)) + t242)), t244, x241002_6, wrap64 ((wrap64 (t247 + t248)) + t249), t251, wrap64 ((wrap64 ((wrap64 (2 * t251)) + a0_1)) + t244), t252, wrap64 ((wrap64 (t252 + t253)) + 3), t254, wrap64 ((wrap64 (t255 + 8)) + (wrap64 (4 * a0_3))), wrap64 (a0_0 + (wrap64 ((wrap64 (2 * a0_1)) * (wrap64 ((wrap64 (t252 + 2)) + a0_3))))))))) = some (r1, r2, r3, r4, r5, r6, r7, r8, r9, r10, r11) := H
    have A37 := Aside0.mk A370
    clear A370
    replace H := Option.bind_eq_some_iff.mp H
    obtain ⟨t254, A380, H⟩ := H
    replace H : ((ferruleref16_Up.f a0_2 a0_1).bind fun t255 => (some ((wrap64 ((wrap64 (2 * t241)) + t242)), t244, x241002_6, wrap64 ((wrap64 (t247 + t248)) + t249), t251, wrap64 ((wrap64 ((wrap64 (2 * t251)) + a0_1)) + t244), t252, wrap64 ((wrap64 (t252 + t253)) + 3), t254, wrap64 ((wrap64 (t255 + 8)) + (wrap64 (4 * a0_3))), wrap64 (a0_0 + (wrap64 ((wrap64 (2 * a0_1)) * (wrap64 ((wrap64 (t252 + 2)) + a0_3)))))))) = some (r1, r2, r3, r4, r5, r6, r7, r8, r9, r10, r11) := H
    have A38 := Aside0.mk A380
    clear A380
    replace H := Option.bind_eq_some_iff.mp H
    obtain ⟨t255, A390, H⟩ := H
    replace H : (some ((wrap64 ((wrap64 (2 * t241)) + t242)), t244, x241002_6, wrap64 ((wrap64 (t247 + t248)) + t249), t251, wrap64 ((wrap64 ((wrap64 (2 * t251)) + a0_1)) + t244), t252, wrap64 ((wrap64 (t252 + t253)) + 3), t254, wrap64 ((wrap64 (t255 + 8)) + (wrap64 (4 * a0_3))), wrap64 (a0_0 + (wrap64 ((wrap64 (2 * a0_1)) * (wrap64 ((wrap64 (t252 + 2)) + a0_3))))))) = some (r1, r2, r3, r4, r5, r6, r7, r8, r9, r10, r11) := H
    have A39 := Aside0.mk A390
    clear A390
    simp only [Option.some.injEq, Prod.mk.injEq] at H
    obtain ⟨rfl, rfl, rfl, rfl, rfl, rfl, rfl, rfl, rfl, rfl, rfl⟩ := H
    try go_wp2
    have n0_ := Aside0.mk (blk_drew BK238.out)
    have n1_ := Aside0.mk (blk_drew BK239.out)
    have n2_ := Aside0.mk (blk_drew BK240.out)
    have n3_ := Aside0.mk (below_drew1 HB.out)
    clear BK238
    clear BK239
    clear BK240
    clear HB
    have BK238 := n0_
    have BK239 := n1_
    have BK240 := n2_
    have HB := n3_
    clear n0_ n1_ n2_ n3_
    refine start_ (n := 16) (S := fun w' => w'.cell? ⟨gb238, 0, none⟩ = some (.int .i64 a0_0) ∧ w'.cell? ⟨gb238, 1, none⟩ = some (.int .i64 a0_1) ∧ w'.cell? ⟨gb238, 2, none⟩ = some (.int .i64 a0_2) ∧ w'.cell? ⟨gb238, 3, none⟩ = some (.int .i64 a0_3) ∧ w'.cell? ⟨gb238, 4, none⟩ = some (.int .i64 a0_4) ∧ w'.cell? ⟨gb238, 5, none⟩ = some (.int .i64 a0_5) ∧ w'.cell? ⟨gb238, 6, none⟩ = some (.bool a0_6)) (ds := []) #[false, false, false, false, false, false, false, false, false, false, false, false, false, false, false, false] (by kernel_rfl) rfl rfl ⟨(blk_cell BK238.out 0).trans rfl, (blk_cell BK238.out 1).trans rfl, (blk_cell BK238.out 2).trans rfl, (blk_cell BK238.out 3).trans rfl, (blk_cell BK238.out 4).trans rfl, (blk_cell BK238.out 5).trans rfl, (blk_cell BK238.out 6).trans rfl⟩ (fun hHeld => ?_); refine with_tabW ferruleref16_Of.tab8 ferruleref16_Of.bits8 (fun HT_ HW_ => ?_)
    generalize wc.drew = w40 at BK238 BK239 BK240 HB hHeld ⊢
    refine pure_ (i := 0) (N := some 57) (v := ?_) (a' := ?_) #[true, false, false, false, false, false, false, false, false, false, false, false, false, false, false, false] rfl rfl (any_of HT_.out (by kernel_rfl)) (fun _ _ _ h => h) (Or.inl ⟨by rfl, ?_⟩) ?_ ?_
    rotate_left
    · intro w'
      go_simp
      with_reducible rfl
    rotate_left
    · simp only [Act.put, List.setIfInBounds_toArray, List.set_cons_zero, List.set_cons_succ, i64_w, i32_w]
      rfl
    refine pure_ (i := 5) (N := some 62) (v := ?_) (a' := ?_) #[true, false, false, false, false, true, false, false, false, false, false, false, false, false, false, false] rfl rfl (any_of HT_.out (by kernel_rfl)) (fun _ _ _ h => h) (Or.inl ⟨by rfl, ?_⟩) ?_ ?_
    rotate_left
    · intro w'
      go_simp
      with_reducible rfl
    rotate_left
    · simp only [Act.put, List.setIfInBounds_toArray, List.set_cons_zero, List.set_cons_succ, i64_w, i32_w]
      rfl
    refine pure_ (i := 9) (N := some 66) (v := ?_) (a' := ?_) #[true, false, false, false, false, true, false, false, false, true, false, false, false, false, false, false] rfl rfl (any_of HT_.out (by kernel_rfl)) (fun _ _ _ h => h) (Or.inl ⟨by rfl, ?_⟩) ?_ ?_
    rotate_left
    · intro w'
      go_simp
      with_reducible rfl
    rotate_left
    · simp only [Act.put, List.setIfInBounds_toArray, List.set_cons_zero, List.set_cons_succ, i64_w, i32_w]
      rfl
    refine pure_ (i := 10) (N := some 67) (v := ?_) (a' := ?_) #[true, false, false, false, false, true, false, false, false, true, true, false, false, false, false, false] rfl rfl (any_of HT_.out (by kernel_rfl)) (fun _ _ _ h => h) (Or.inl ⟨by rfl, ?_⟩) ?_ ?_
    rotate_left
    · intro w'
      go_simp
      with_reducible rfl
    rotate_left
    · simp only [Act.put, List.setIfInBounds_toArray, List.set_cons_zero, List.set_cons_succ, i64_w, i32_w]
      rfl
    refine pure_ (i := 11) (N := some 68) (v := ?_) (a' := ?_) #[true, false, false, false, false, true, false, false, false, true, true, true, false, false, false, false] rfl rfl (any_of HT_.out (by kernel_rfl)) (fun _ _ _ h => h) (Or.inl ⟨by rfl, ?_⟩) ?_ ?_
    rotate_left
    · intro w'
      go_simp
      with_reducible rfl
    rotate_left
    · simp only [Act.put, List.setIfInBounds_toArray, List.set_cons_zero, List.set_cons_succ, i64_w, i32_w]
      rfl
    refine take_ (i := 1) (N := some 58) (v := ?_) (a' := ?_) #[true, true, false, false, false, true, false, false, false, true, true, true, false, false, false, false] rfl rfl (take_ofW HT_.out HW_.out (by kernel_rfl)) (fun _ _ _ h => h) (Or.inl ⟨by rfl, ?_⟩) hHeld ?_ ?_
    rotate_left
    · rintro w' ⟨s0, s1, s2, s3, s4, s5, s6⟩
      go_simp
      with_reducible rfl
    rotate_left
    · simp only [Act.put, List.setIfInBounds_toArray, List.set_cons_zero, List.set_cons_succ, i64_w, i32_w]
      rfl
    refine pure_ (i := 2) (N := some 59) (v := ?_) (a' := ?_) #[true, true, true, false, false, true, false, false, false, true, true, true, false, false, false, false] rfl rfl (any_of HT_.out (by kernel_rfl)) (fun _ _ _ h => h) (Or.inl ⟨by rfl, ?_⟩) ?_ ?_
    rotate_left
    · intro w'
      go_simp
      with_reducible rfl
    rotate_left
    · simp only [Act.put, List.setIfInBounds_toArray, List.set_cons_zero, List.set_cons_succ, i64_w, i32_w]
      rfl
    refine pure_ (i := 3) (N := some 60) (v := ?_) (a' := ?_) #[true, true, true, true, false, true, false, false, false, true, true, true, false, false, false, false] rfl rfl (any_of HT_.out (by kernel_rfl)) (fun _ _ _ h => h) (Or.inl ⟨by rfl, ?_⟩) ?_ ?_
    rotate_left
    · intro w'
      go_simp
      with_reducible rfl
    rotate_left
    · simp only [Act.put, List.setIfInBounds_toArray, List.set_cons_zero, List.set_cons_succ, i64_w, i32_w]
      rfl
    refine take_ (i := 6) (N := some 63) (v := ?_) (a' := ?_) #[true, true, true, true, false, true, true, false, false, true, true, true, false, false, false, false] rfl rfl (take_ofW HT_.out HW_.out (by kernel_rfl)) (fun _ _ _ h => h) (Or.inl ⟨by rfl, ?_⟩) hHeld ?_ ?_
    rotate_left
    · rintro w' ⟨s0, s1, s2, s3, s4, s5, s6⟩
      go_simp
      with_reducible rfl
    rotate_left
    · simp only [Act.put, List.setIfInBounds_toArray, List.set_cons_zero, List.set_cons_succ, i64_w, i32_w]
      rfl
    refine one_ (i := 4) (N := some 61) #[true, true, true, true, true, true, true, false, false, true, true, true, false, false, false, false] rfl rfl (one_of HT_.out (by kernel_rfl)) (by decide) (fun K hK => ?_)
    refine goes_ Try.func25 (by kernel_rfl) rfl #[.int .i64 (wrap64 ((wrap64 (2 * a0_2)) + 1))] (by rfl) rfl rfl (by (try simp only [List.map_toArray, List.map_cons, List.map_nil]); first | done | rfl | (simp only [List.length_drop, List.length_take]; rfl)) ?_
    with_reducible refine (ferruleref16_l.calls kj6 (wrap64 ((wrap64 (2 * a0_2)) + 1)) t247 _ A31.out).mono ?_
    rintro e w41 ⟨rfl, hb⟩
    refine ⟨_, rfl, ?_⟩
    have n0_ := Aside0.mk (blk_below (g := gb238) (o := .cells #[.int .i64 a0_0, .int .i64 a0_1, .int .i64 a0_2, .int .i64 a0_3, .int .i64 a0_4, .int .i64 a0_5, .bool a0_6] 29 (0, 0)) (by (with_reducible repeat (first | refine blk_drewN ?_ _ | refine blk_drew ?_ | refine blk_alloc ?_ _)); exact BK238.out) hb)
    have n1_ := Aside0.mk (blk_below (g := gb239) (o := .cells #[.int .i64 0, .int .i64 0, .int .i64 0, .int .i64 0, .int .i64 0, .int .i64 0, .int .i64 0, .int .i64 0, .int .i64 0, .int .i64 0, .int .i64 0] 35 (0, 0)) (by (with_reducible repeat (first | refine blk_drewN ?_ _ | refine blk_drew ?_ | refine blk_alloc ?_ _)); exact BK239.out) hb)
    have n2_ := Aside0.mk (blk_below (g := gb240) (o := .cells #[.int .i64 (wrap64 ((wrap64 (2 * t241)) + t242)), .int .i64 t244, .int .i64 x241002_6, .int .i64 0, .int .i64 0, .int .i64 0, .int .i64 0, .int .i64 0, .int .i64 0, .int .i64 0, .int .i64 0] 35 (0, 0)) (by (with_reducible repeat (first | refine blk_drewN ?_ _ | refine blk_drew ?_ | refine blk_alloc ?_ _)); exact BK240.out) hb)
    have n3_ := Aside0.mk (below_step (by repeat (first | (with_reducible first | exact HB.out | apply below_alloc | apply pw_below_drewN | apply below_drew1 | refine below_set ?_ GE238.out | refine below_set ?_ GE239.out | refine below_set ?_ GE240.out) | exact HB.out)) hb)
    clear BK238
    clear BK239
    clear BK240
    clear HB
    have BK238 := n0_
    have BK239 := n1_
    have BK240 := n2_
    have HB := n3_
    clear n0_ n1_ n2_ n3_
    (try clear hb)
    (try clear hb2)
    (try clear hk)
    (try clear hi)
    refine hK.out _ _ ⟨(blk_cell BK238.out 0).trans rfl, (blk_cell BK238.out 1).trans rfl, (blk_cell BK238.out 2).trans rfl, (blk_cell BK238.out 3).trans rfl, (blk_cell BK238.out 4).trans rfl, (blk_cell BK238.out 5).trans rfl, (blk_cell BK238.out 6).trans rfl⟩ (fun hHeld => ?_)
    clear hK K
    refine norm_ (a' := ?_) ?_ ?_
    rotate_left
    · show Act.put _ (some 61) _ = _
      simp only [Act.put, List.setIfInBounds_toArray, List.set_cons_zero, List.set_cons_succ, i64_w, i32_w]
      rfl
    refine one_ (i := 7) (N := some 64) #[true, true, true, true, true, true, true, true, false, true, true, true, false, false, false, false] rfl rfl (one_of HT_.out (by kernel_rfl)) (by decide) (fun K hK => ?_)
    refine goes_ Try.func25 (by kernel_rfl) rfl #[.int .i64 a0_2] (by rfl) rfl rfl (by (try simp only [List.map_toArray, List.map_cons, List.map_nil]); first | done | rfl | (simp only [List.length_drop, List.length_take]; rfl)) ?_
    with_reducible refine (ferruleref16_l.calls kj6 a0_2 t248 _ A32.out).mono ?_
    rintro e w42 ⟨rfl, hb⟩
    refine ⟨_, rfl, ?_⟩
    have n0_ := Aside0.mk (blk_below (g := gb238) (o := .cells #[.int .i64 a0_0, .int .i64 a0_1, .int .i64 a0_2, .int .i64 a0_3, .int .i64 a0_4, .int .i64 a0_5, .bool a0_6] 29 (0, 0)) (by (with_reducible repeat (first | refine blk_drewN ?_ _ | refine blk_drew ?_ | refine blk_alloc ?_ _)); exact BK238.out) hb)
    have n1_ := Aside0.mk (blk_below (g := gb239) (o := .cells #[.int .i64 0, .int .i64 0, .int .i64 0, .int .i64 0, .int .i64 0, .int .i64 0, .int .i64 0, .int .i64 0, .int .i64 0, .int .i64 0, .int .i64 0] 35 (0, 0)) (by (with_reducible repeat (first | refine blk_drewN ?_ _ | refine blk_drew ?_ | refine blk_alloc ?_ _)); exact BK239.out) hb)
    have n2_ := Aside0.mk (blk_below (g := gb240) (o := .cells #[.int .i64 (wrap64 ((wrap64 (2 * t241)) + t242)), .int .i64 t244, .int .i64 x241002_6, .int .i64 0, .int .i64 0, .int .i64 0, .int .i64 0, .int .i64 0, .int .i64 0, .int .i64 0, .int .i64 0] 35 (0, 0)) (by (with_reducible repeat (first | refine blk_drewN ?_ _ | refine blk_drew ?_ | refine blk_alloc ?_ _)); exact BK240.out) hb)
    have n3_ := Aside0.mk (below_step (by repeat (first | (with_reducible first | exact HB.out | apply below_alloc | apply pw_below_drewN | apply below_drew1 | refine below_set ?_ GE238.out | refine below_set ?_ GE239.out | refine below_set ?_ GE240.out) | exact HB.out)) hb)
    clear BK238
    clear BK239
    clear BK240
    clear HB
    have BK238 := n0_
    have BK239 := n1_
    have BK240 := n2_
    have HB := n3_
    clear n0_ n1_ n2_ n3_
    (try clear hb)
    (try clear hb2)
    (try clear hk)
    (try clear hi)
    refine hK.out _ _ ⟨(blk_cell BK238.out 0).trans rfl, (blk_cell BK238.out 1).trans rfl, (blk_cell BK238.out 2).trans rfl, (blk_cell BK238.out 3).trans rfl, (blk_cell BK238.out 4).trans rfl, (blk_cell BK238.out 5).trans rfl, (blk_cell BK238.out 6).trans rfl⟩ (fun hHeld => ?_)
    clear hK K
    refine norm_ (a' := ?_) ?_ ?_
    rotate_left
    · show Act.put _ (some 64) _ = _
      simp only [Act.put, List.setIfInBounds_toArray, List.set_cons_zero, List.set_cons_succ, i64_w, i32_w]
      rfl
    refine pure_ (i := 8) (N := some 65) (v := ?_) (a' := ?_) #[true, true, true, true, true, true, true, true, true, true, true, true, false, false, false, false] rfl rfl (any_of HT_.out (by kernel_rfl)) (fun _ _ _ h => h) (Or.inl ⟨by rfl, ?_⟩) ?_ ?_
    rotate_left
    · intro w'
      go_simp
      with_reducible rfl
    rotate_left
    · simp only [Act.put, List.setIfInBounds_toArray, List.set_cons_zero, List.set_cons_succ, i64_w, i32_w]
      rfl
    refine one_ (i := 12) (N := some 69) #[true, true, true, true, true, true, true, true, true, true, true, true, true, false, false, false] rfl rfl (one_of HT_.out (by kernel_rfl)) (by decide) (fun K hK => ?_)
    refine goes_ Try.func25 (by kernel_rfl) rfl #[.int .i64 (wrap64 ((wrap64 (2 * (wrap64 (a0_0 * a0_1)))) + 3))] (by rfl) rfl rfl (by (try simp only [List.map_toArray, List.map_cons, List.map_nil]); first | done | rfl | (simp only [List.length_drop, List.length_take]; rfl)) ?_
    with_reducible refine (ferruleref16_l.calls kj6 (wrap64 ((wrap64 (2 * (wrap64 (a0_0 * a0_1)))) + 3)) t249 _ A33.out).mono ?_
    rintro e w43 ⟨rfl, hb⟩
    refine ⟨_, rfl, ?_⟩
    have n0_ := Aside0.mk (blk_below (g := gb238) (o := .cells #[.int .i64 a0_0, .int .i64 a0_1, .int .i64 a0_2, .int .i64 a0_3, .int .i64 a0_4, .int .i64 a0_5, .bool a0_6] 29 (0, 0)) (by (with_reducible repeat (first | refine blk_drewN ?_ _ | refine blk_drew ?_ | refine blk_alloc ?_ _)); exact BK238.out) hb)
    have n1_ := Aside0.mk (blk_below (g := gb239) (o := .cells #[.int .i64 0, .int .i64 0, .int .i64 0, .int .i64 0, .int .i64 0, .int .i64 0, .int .i64 0, .int .i64 0, .int .i64 0, .int .i64 0, .int .i64 0] 35 (0, 0)) (by (with_reducible repeat (first | refine blk_drewN ?_ _ | refine blk_drew ?_ | refine blk_alloc ?_ _)); exact BK239.out) hb)
    have n2_ := Aside0.mk (blk_below (g := gb240) (o := .cells #[.int .i64 (wrap64 ((wrap64 (2 * t241)) + t242)), .int .i64 t244, .int .i64 x241002_6, .int .i64 0, .int .i64 0, .int .i64 0, .int .i64 0, .int .i64 0, .int .i64 0, .int .i64 0, .int .i64 0] 35 (0, 0)) (by (with_reducible repeat (first | refine blk_drewN ?_ _ | refine blk_drew ?_ | refine blk_alloc ?_ _)); exact BK240.out) hb)
    have n3_ := Aside0.mk (below_step (by repeat (first | (with_reducible first | exact HB.out | apply below_alloc | apply pw_below_drewN | apply below_drew1 | refine below_set ?_ GE238.out | refine below_set ?_ GE239.out | refine below_set ?_ GE240.out) | exact HB.out)) hb)
    clear BK238
    clear BK239
    clear BK240
    clear HB
    have BK238 := n0_
    have BK239 := n1_
    have BK240 := n2_
    have HB := n3_
    clear n0_ n1_ n2_ n3_
    (try clear hb)
    (try clear hb2)
    (try clear hk)
    (try clear hi)
    refine hK.out _ _ ⟨(blk_cell BK238.out 0).trans rfl, (blk_cell BK238.out 1).trans rfl, (blk_cell BK238.out 2).trans rfl, (blk_cell BK238.out 3).trans rfl, (blk_cell BK238.out 4).trans rfl, (blk_cell BK238.out 5).trans rfl, (blk_cell BK238.out 6).trans rfl⟩ (fun hHeld => ?_)
    clear hK K
    refine norm_ (a' := ?_) ?_ ?_
    rotate_left
    · show Act.put _ (some 69) _ = _
      simp only [Act.put, List.setIfInBounds_toArray, List.set_cons_zero, List.set_cons_succ, i64_w, i32_w]
      rfl
    refine pure_ (i := 13) (N := some 70) (v := ?_) (a' := ?_) #[true, true, true, true, true, true, true, true, true, true, true, true, true, true, false, false] rfl rfl (any_of HT_.out (by kernel_rfl)) (fun _ _ _ h => h) (Or.inl ⟨by rfl, ?_⟩) ?_ ?_
    rotate_left
    · intro w'
      go_simp
      with_reducible rfl
    rotate_left
    · simp only [Act.put, List.setIfInBounds_toArray, List.set_cons_zero, List.set_cons_succ, i64_w, i32_w]
      rfl
    refine pure_ (i := 14) (N := some 71) (v := ?_) (a' := ?_) #[true, true, true, true, true, true, true, true, true, true, true, true, true, true, true, false] rfl rfl (any_of HT_.out (by kernel_rfl)) (fun _ _ _ h => h) (Or.inl ⟨by rfl, ?_⟩) ?_ ?_
    rotate_left
    · intro w'
      go_simp
      with_reducible rfl
    rotate_left
    · simp only [Act.put, List.setIfInBounds_toArray, List.set_cons_zero, List.set_cons_succ, i64_w, i32_w]
      rfl
    refine one_ (i := 15) (N := none) #[true, true, true, true, true, true, true, true, true, true, true, true, true, true, true, true] rfl rfl (one_of HT_.out (by kernel_rfl)) (by decide) (fun K hK => ?_)
    have hs44 : w43.cell? ⟨gb240, 3, none⟩ = some (.int .i64 0) := (blk_cell BK240.out 3).trans rfl
    have hfs44 := blk_frozen BK240.out 3
    have hns44_0 := NB238_240.out
    have hns44_1 := NB239_240.out
    have hms44_0 := NB240_238.out
    have hms44_1 := NB240_239.out
    refine skip_ (w1 := ?_) (by rfl) rfl ?_ ?_
    rotate_left
    · go_simp
      rfl
    refine hK.out _ _ ⟨((cell_far (p := ⟨gb240, _, none⟩) NB238_240.out _).trans (hHeld.1)), ((cell_far (p := ⟨gb240, _, none⟩) NB238_240.out _).trans (hHeld.2.1)), ((cell_far (p := ⟨gb240, _, none⟩) NB238_240.out _).trans (hHeld.2.2.1)), ((cell_far (p := ⟨gb240, _, none⟩) NB238_240.out _).trans (hHeld.2.2.2.1)), ((cell_far (p := ⟨gb240, _, none⟩) NB238_240.out _).trans (hHeld.2.2.2.2.1)), ((cell_far (p := ⟨gb240, _, none⟩) NB238_240.out _).trans (hHeld.2.2.2.2.2.1)), ((cell_far (p := ⟨gb240, _, none⟩) NB238_240.out _).trans (hHeld.2.2.2.2.2.2))⟩ (fun hHeld => ?_)
    clear hK K
    refine done_ (done_of HT_.out (by kernel_rfl)) ?_
    try go_wp2
    have n0_ : Aside0 ((w43.setCell ⟨gb240, 3, none⟩ (.int .i64 (wrap64 ((wrap64 (t247 + t248)) + t249)))).heap[gb238]? = some (.cells #[.int .i64 a0_0, .int .i64 a0_1, .int .i64 a0_2, .int .i64 a0_3, .int .i64 a0_4, .int .i64 a0_5, .bool a0_6] 29 (0, 0))) := ⟨by (with_reducible repeat (first | refine blk_drewN ?_ _ | refine blk_drew ?_ | refine blk_alloc ?_ _)); refine blk_far ?_ NB238_240.out _; (with_reducible repeat (first | refine blk_drewN ?_ _ | refine blk_drew ?_ | refine blk_alloc ?_ _)); exact BK238.out⟩
    have n1_ : Aside0 ((w43.setCell ⟨gb240, 3, none⟩ (.int .i64 (wrap64 ((wrap64 (t247 + t248)) + t249)))).heap[gb239]? = some (.cells #[.int .i64 0, .int .i64 0, .int .i64 0, .int .i64 0, .int .i64 0, .int .i64 0, .int .i64 0, .int .i64 0, .int .i64 0, .int .i64 0, .int .i64 0] 35 (0, 0))) := ⟨by (with_reducible repeat (first | refine blk_drewN ?_ _ | refine blk_drew ?_ | refine blk_alloc ?_ _)); refine blk_far ?_ NB239_240.out _; (with_reducible repeat (first | refine blk_drewN ?_ _ | refine blk_drew ?_ | refine blk_alloc ?_ _)); exact BK239.out⟩
    have n2_ : Aside0 ((w43.setCell ⟨gb240, 3, none⟩ (.int .i64 (wrap64 ((wrap64 (t247 + t248)) + t249)))).heap[gb240]? = some (.cells #[.int .i64 (wrap64 ((wrap64 (2 * t241)) + t242)), .int .i64 t244, .int .i64 x241002_6, .int .i64 (wrap64 ((wrap64 (t247 + t248)) + t249)), .int .i64 0, .int .i64 0, .int .i64 0, .int .i64 0, .int .i64 0, .int .i64 0, .int .i64 0] 35 (0, 0))) := ⟨by (with_reducible repeat (first | refine blk_drewN ?_ _ | refine blk_drew ?_ | refine blk_alloc ?_ _)); refine blk_put (cs := #[.int .i64 (wrap64 ((wrap64 (2 * t241)) + t242)), .int .i64 t244, .int .i64 x241002_6, .int .i64 0, .int .i64 0, .int .i64 0, .int .i64 0, .int .i64 0, .int .i64 0, .int .i64 0, .int .i64 0]) ?_ 3 _ rfl; (with_reducible repeat (first | refine blk_drewN ?_ _ | refine blk_drew ?_ | refine blk_alloc ?_ _)); exact BK240.out⟩
    have n3_ : Aside0 (Below w.heap.size w (w43.setCell ⟨gb240, 3, none⟩ (.int .i64 (wrap64 ((wrap64 (t247 + t248)) + t249))))) := ⟨by repeat (first | (with_reducible first | exact HB.out | apply below_alloc | apply pw_below_drewN | apply below_drew1 | refine below_set ?_ GE238.out | refine below_set ?_ GE239.out | refine below_set ?_ GE240.out) | exact HB.out)⟩
    (try clear BK238)
    (try clear BK239)
    (try clear BK240)
    (try clear HB)
    generalize (w43.setCell ⟨gb240, 3, none⟩ (.int .i64 (wrap64 ((wrap64 (t247 + t248)) + t249)))) = w45 at n0_ n1_ n2_ n3_ ⊢
    have BK238 := n0_
    have BK239 := n1_
    have BK240 := n2_
    have HB := n3_
    clear n0_ n1_ n2_ n3_
    have n0_ := Aside0.mk (blk_drew BK238.out)
    have n1_ := Aside0.mk (blk_drew BK239.out)
    have n2_ := Aside0.mk (blk_drew BK240.out)
    have n3_ := Aside0.mk (below_drew1 HB.out)
    clear BK238
    clear BK239
    clear BK240
    clear HB
    have BK238 := n0_
    have BK239 := n1_
    have BK240 := n2_
    have HB := n3_
    clear n0_ n1_ n2_ n3_
    refine start_ (n := 12) (S := fun w' => w'.cell? ⟨gb240, 0, none⟩ = some (.int .i64 (wrap64 ((wrap64 (2 * t241)) + t242))) ∧ w'.cell? ⟨gb240, 1, none⟩ = some (.int .i64 t244) ∧ w'.cell? ⟨gb240, 2, none⟩ = some (.int .i64 x241002_6) ∧ w'.cell? ⟨gb240, 3, none⟩ = some (.int .i64 (wrap64 ((wrap64 (t247 + t248)) + t249))) ∧ w'.cell? ⟨gb240, 4, none⟩ = some (.int .i64 0) ∧ w'.cell? ⟨gb240, 5, none⟩ = some (.int .i64 0) ∧ w'.cell? ⟨gb240, 6, none⟩ = some (.int .i64 0) ∧ w'.cell? ⟨gb240, 7, none⟩ = some (.int .i64 0) ∧ w'.cell? ⟨gb240, 8, none⟩ = some (.int .i64 0) ∧ w'.cell? ⟨gb240, 9, none⟩ = some (.int .i64 0) ∧ w'.cell? ⟨gb240, 10, none⟩ = some (.int .i64 0)) (ds := [11]) #[false, false, false, false, false, false, false, false, false, false, false, false] (by kernel_rfl) rfl rfl ⟨(blk_cell BK240.out 0).trans rfl, (blk_cell BK240.out 1).trans rfl, (blk_cell BK240.out 2).trans rfl, (blk_cell BK240.out 3).trans rfl, (blk_cell BK240.out 4).trans rfl, (blk_cell BK240.out 5).trans rfl, (blk_cell BK240.out 6).trans rfl, (blk_cell BK240.out 7).trans rfl, (blk_cell BK240.out 8).trans rfl, (blk_cell BK240.out 9).trans rfl, (blk_cell BK240.out 10).trans rfl⟩ (fun hHeld => ?_); refine with_tabW ferruleref16_Of.tab9 ferruleref16_Of.bits9 (fun HT_ HW_ => ?_)
    generalize w45.drew = w46 at BK238 BK239 BK240 HB hHeld ⊢
    refine pure_ (i := 0) (N := some 72) (v := ?_) (a' := ?_) #[true, false, false, false, false, false, false, false, false, false, false, false] rfl rfl (any_of HT_.out (by kernel_rfl)) (fun _ _ _ h => h) (Or.inl ⟨by rfl, ?_⟩) ?_ ?_
    rotate_left
    · intro w'
      go_simp
      with_reducible rfl
    rotate_left
    · simp only [Act.put, List.setIfInBounds_toArray, List.set_cons_zero, List.set_cons_succ, i64_w, i32_w]
      rfl
    refine pure_ (i := 3) (N := some 75) (v := ?_) (a' := ?_) #[true, false, false, true, false, false, false, false, false, false, false, false] rfl rfl (any_of HT_.out (by kernel_rfl)) (fun _ _ _ h => h) (Or.inl ⟨by rfl, ?_⟩) ?_ ?_
    rotate_left
    · intro w'
      go_simp
      with_reducible rfl
    rotate_left
    · simp only [Act.put, List.setIfInBounds_toArray, List.set_cons_zero, List.set_cons_succ, i64_w, i32_w]
      rfl
    refine pure_ (i := 5) (N := some 77) (v := ?_) (a' := ?_) #[true, false, false, true, false, true, false, false, false, false, false, false] rfl rfl (any_of HT_.out (by kernel_rfl)) (fun _ _ _ h => h) (Or.inl ⟨by rfl, ?_⟩) ?_ ?_
    rotate_left
    · intro w'
      go_simp
      with_reducible rfl
    rotate_left
    · simp only [Act.put, List.setIfInBounds_toArray, List.set_cons_zero, List.set_cons_succ, i64_w, i32_w]
      rfl
    refine take_ (i := 1) (N := some 73) (v := ?_) (a' := ?_) #[true, true, false, true, false, true, false, false, false, false, false, false] rfl rfl (take_ofW HT_.out HW_.out (by kernel_rfl)) (fun _ _ _ h => h) (Or.inl ⟨by rfl, ?_⟩) hHeld ?_ ?_
    rotate_left
    · rintro w' ⟨s0, s1, s2, s3, s4, s5, s6, s7, s8, s9, s10⟩
      go_simp
      with_reducible rfl
    rotate_left
    · simp only [Act.put, List.setIfInBounds_toArray, List.set_cons_zero, List.set_cons_succ, i64_w, i32_w]
      rfl
    refine take_ (i := 4) (N := some 76) (v := ?_) (a' := ?_) #[true, true, false, true, true, true, false, false, false, false, false, false] rfl rfl (take_ofW HT_.out HW_.out (by kernel_rfl)) (fun _ _ _ h => h) (Or.inl ⟨by rfl, ?_⟩) hHeld ?_ ?_
    rotate_left
    · rintro w' ⟨s0, s1, s2, s3, s4, s5, s6, s7, s8, s9, s10⟩
      go_simp
      with_reducible rfl
    rotate_left
    · simp only [Act.put, List.setIfInBounds_toArray, List.set_cons_zero, List.set_cons_succ, i64_w, i32_w]
      rfl
    refine take_ (i := 6) (N := some 78) (v := ?_) (a' := ?_) #[true, true, false, true, true, true, true, false, false, false, false, false] rfl rfl (take_ofW HT_.out HW_.out (by kernel_rfl)) (fun _ _ _ h => h) (Or.inl ⟨by rfl, ?_⟩) hHeld ?_ ?_
    rotate_left
    · rintro w' ⟨s0, s1, s2, s3, s4, s5, s6, s7, s8, s9, s10⟩
      go_simp
      with_reducible rfl
    rotate_left
    · simp only [Act.put, List.setIfInBounds_toArray, List.set_cons_zero, List.set_cons_succ, i64_w, i32_w]
      rfl
    refine pure_ (i := 7) (N := some 79) (v := ?_) (a' := ?_) #[true, true, false, true, true, true, true, true, false, false, false, false] rfl rfl (any_of HT_.out (by kernel_rfl)) (fun _ _ _ h => h) (Or.inl ⟨by rfl, ?_⟩) ?_ ?_
    rotate_left
    · intro w'
      go_simp
      with_reducible rfl
    rotate_left
    · simp only [Act.put, List.setIfInBounds_toArray, List.set_cons_zero, List.set_cons_succ, i64_w, i32_w]
      rfl
    refine one_ (i := 2) (N := some 74) #[true, true, true, true, true, true, true, true, false, false, false, false] rfl rfl (one_of HT_.out (by kernel_rfl)) (by decide) (fun K hK => ?_)
    refine goes_ Try.func25 (by kernel_rfl) rfl #[.int .i64 x241002_6] (by rfl) rfl rfl (by (try simp only [List.map_toArray, List.map_cons, List.map_nil]); first | done | rfl | (simp only [List.length_drop, List.length_take]; rfl)) ?_
    with_reducible refine (ferruleref16_l.calls kj6 x241002_6 t250 _ A34.out).mono ?_
    rintro e w47 ⟨rfl, hb⟩
    refine ⟨_, rfl, ?_⟩
    have n0_ := Aside0.mk (blk_below (g := gb238) (o := .cells #[.int .i64 a0_0, .int .i64 a0_1, .int .i64 a0_2, .int .i64 a0_3, .int .i64 a0_4, .int .i64 a0_5, .bool a0_6] 29 (0, 0)) (by (with_reducible repeat (first | refine blk_drewN ?_ _ | refine blk_drew ?_ | refine blk_alloc ?_ _)); exact BK238.out) hb)
    have n1_ := Aside0.mk (blk_below (g := gb239) (o := .cells #[.int .i64 0, .int .i64 0, .int .i64 0, .int .i64 0, .int .i64 0, .int .i64 0, .int .i64 0, .int .i64 0, .int .i64 0, .int .i64 0, .int .i64 0] 35 (0, 0)) (by (with_reducible repeat (first | refine blk_drewN ?_ _ | refine blk_drew ?_ | refine blk_alloc ?_ _)); exact BK239.out) hb)
    have n2_ := Aside0.mk (blk_below (g := gb240) (o := .cells #[.int .i64 (wrap64 ((wrap64 (2 * t241)) + t242)), .int .i64 t244, .int .i64 x241002_6, .int .i64 (wrap64 ((wrap64 (t247 + t248)) + t249)), .int .i64 0, .int .i64 0, .int .i64 0, .int .i64 0, .int .i64 0, .int .i64 0, .int .i64 0] 35 (0, 0)) (by (with_reducible repeat (first | refine blk_drewN ?_ _ | refine blk_drew ?_ | refine blk_alloc ?_ _)); exact BK240.out) hb)
    have n3_ := Aside0.mk (below_step (by repeat (first | (with_reducible first | exact HB.out | apply below_alloc | apply pw_below_drewN | apply below_drew1 | refine below_set ?_ GE238.out | refine below_set ?_ GE239.out | refine below_set ?_ GE240.out) | exact HB.out)) hb)
    clear BK238
    clear BK239
    clear BK240
    clear HB
    have BK238 := n0_
    have BK239 := n1_
    have BK240 := n2_
    have HB := n3_
    clear n0_ n1_ n2_ n3_
    (try clear hb)
    (try clear hb2)
    (try clear hk)
    (try clear hi)
    refine hK.out _ _ ⟨(blk_cell BK240.out 0).trans rfl, (blk_cell BK240.out 1).trans rfl, (blk_cell BK240.out 2).trans rfl, (blk_cell BK240.out 3).trans rfl, (blk_cell BK240.out 4).trans rfl, (blk_cell BK240.out 5).trans rfl, (blk_cell BK240.out 6).trans rfl, (blk_cell BK240.out 7).trans rfl, (blk_cell BK240.out 8).trans rfl, (blk_cell BK240.out 9).trans rfl, (blk_cell BK240.out 10).trans rfl⟩ (fun hHeld => ?_)
    clear hK K
    refine norm_ (a' := ?_) ?_ ?_
    rotate_left
    · show Act.put _ (some 74) _ = _
      simp only [Act.put, List.setIfInBounds_toArray, List.set_cons_zero, List.set_cons_succ, i64_w, i32_w]
      rfl
    refine pure_ (i := 8) (N := some 80) (v := ?_) (a' := ?_) #[true, true, true, true, true, true, true, true, true, false, false, false] rfl rfl (any_of HT_.out (by kernel_rfl)) (fun _ _ _ h => h) (Or.inl ⟨by rfl, ?_⟩) ?_ ?_
    rotate_left
    · intro w'
      go_simp
      with_reducible rfl
    rotate_left
    · simp only [Act.put, List.setIfInBounds_toArray, List.set_cons_zero, List.set_cons_succ, i64_w, i32_w]
      rfl
    refine one_ (i := 9) (N := some 81) #[true, true, true, true, true, true, true, true, true, true, false, false] rfl rfl (one_of HT_.out (by kernel_rfl)) (by decide) (fun K hK => ?_)
    refine goes_ Try.func26 (by kernel_rfl) rfl #[.int .i64 (wrap64 (t250 + (wrap64 (x241002_6 * (wrap64 ((wrap64 (t247 + t248)) + t249))))))] (by rfl) rfl rfl (by (try simp only [List.map_toArray, List.map_cons, List.map_nil]); first | done | rfl | (simp only [List.length_drop, List.length_take]; rfl)) ?_
    with_reducible refine (ferruleref12_Pages.calls kj6 (wrap64 (t250 + (wrap64 (x241002_6 * (wrap64 ((wrap64 (t247 + t248)) + t249)))))) t251 _ A35.out).mono ?_
    rintro e w' ⟨rfl, ⟨nd, rfl⟩⟩
    refine ⟨_, rfl, ?_⟩
    refine hK.out _ _ ⟨(blk_cell BK240.out 0).trans rfl, (blk_cell BK240.out 1).trans rfl, (blk_cell BK240.out 2).trans rfl, (blk_cell BK240.out 3).trans rfl, (blk_cell BK240.out 4).trans rfl, (blk_cell BK240.out 5).trans rfl, (blk_cell BK240.out 6).trans rfl, (blk_cell BK240.out 7).trans rfl, (blk_cell BK240.out 8).trans rfl, (blk_cell BK240.out 9).trans rfl, (blk_cell BK240.out 10).trans rfl⟩ (fun hHeld => ?_)
    clear hK K
    refine norm_ (a' := ?_) ?_ ?_
    rotate_left
    · show Act.put _ (some 81) _ = _
      simp only [Act.put, List.setIfInBounds_toArray, List.set_cons_zero, List.set_cons_succ, i64_w, i32_w]
      rfl
    refine pure_ (i := 10) (N := some 82) (v := ?_) (a' := ?_) #[true, true, true, true, true, true, true, true, true, true, true, false] rfl rfl (any_of HT_.out (by kernel_rfl)) (fun _ _ _ h => h) (Or.inl ⟨by rfl, ?_⟩) ?_ ?_
    rotate_left
    · intro w'
      go_simp
      with_reducible rfl
    rotate_left
    · simp only [Act.put, List.setIfInBounds_toArray, List.set_cons_zero, List.set_cons_succ, i64_w, i32_w]
      rfl
    refine last_ (i := 11) (N := none) #[true, true, true, true, true, true, true, true, true, true, true, true] rfl rfl (one_of HT_.out (by kernel_rfl)) (by decide) (fun K hK => ?_)
    have hs48 : w47.cell? ⟨gb240, 4, none⟩ = some (.int .i64 0) := (blk_cell BK240.out 4).trans rfl
    have hfs48 := blk_frozen BK240.out 4
    have hns48_0 := NB238_240.out
    have hns48_1 := NB239_240.out
    have hms48_0 := NB240_238.out
    have hms48_1 := NB240_239.out
    refine skip_ (w1 := ?_) (by rfl) rfl ?_ ?_
    rotate_left
    · go_simp
      rfl
    refine hK.out _ _ ?_
    clear hK K
    refine done_ (done_of HT_.out (by kernel_rfl)) ?_
    have hnb49 := NB240_238.out
    have hnc49 := NB238_240.out
    have hnb50 := NB240_239.out
    have hnc50 := NB239_240.out
    have hcz51_0 : w47.cell? ⟨gb240, 0, none⟩ = some (.int .i64 (wrap64 ((wrap64 (2 * t241)) + t242))) := (blk_cell BK240.out 0).trans rfl
    have hcz51_1 : w47.cell? ⟨gb240, 1, none⟩ = some (.int .i64 t244) := (blk_cell BK240.out 1).trans rfl
    have hcz51_2 : w47.cell? ⟨gb240, 2, none⟩ = some (.int .i64 x241002_6) := (blk_cell BK240.out 2).trans rfl
    have hcz51_3 : w47.cell? ⟨gb240, 3, none⟩ = some (.int .i64 (wrap64 ((wrap64 (t247 + t248)) + t249))) := (blk_cell BK240.out 3).trans rfl
    have hcz51_4 : w47.cell? ⟨gb240, 4, none⟩ = some (.int .i64 0) := (blk_cell BK240.out 4).trans rfl
    have hcz51_5 : w47.cell? ⟨gb240, 5, none⟩ = some (.int .i64 0) := (blk_cell BK240.out 5).trans rfl
    have hcz51_6 : w47.cell? ⟨gb240, 6, none⟩ = some (.int .i64 0) := (blk_cell BK240.out 6).trans rfl
    have hcz51_7 : w47.cell? ⟨gb240, 7, none⟩ = some (.int .i64 0) := (blk_cell BK240.out 7).trans rfl
    have hcz51_8 : w47.cell? ⟨gb240, 8, none⟩ = some (.int .i64 0) := (blk_cell BK240.out 8).trans rfl
    have hcz51_9 : w47.cell? ⟨gb240, 9, none⟩ = some (.int .i64 0) := (blk_cell BK240.out 9).trans rfl
    have hcz51_10 : w47.cell? ⟨gb240, 10, none⟩ = some (.int .i64 0) := (blk_cell BK240.out 10).trans rfl
    have hfz51_0 := blk_frozen BK240.out 0
    have hfz51_1 := blk_frozen BK240.out 1
    have hfz51_2 := blk_frozen BK240.out 2
    have hfz51_3 := blk_frozen BK240.out 3
    have hfz51_4 := blk_frozen BK240.out 4
    have hfz51_5 := blk_frozen BK240.out 5
    have hfz51_6 := blk_frozen BK240.out 6
    have hfz51_7 := blk_frozen BK240.out 7
    have hfz51_8 := blk_frozen BK240.out 8
    have hfz51_9 := blk_frozen BK240.out 9
    have hfz51_10 := blk_frozen BK240.out 10
    have hnb52 := NB238_239.out
    have hnc52 := NB239_238.out
    have hcz53_0 : w47.cell? ⟨gb238, 0, none⟩ = some (.int .i64 a0_0) := (blk_cell BK238.out 0).trans rfl
    have hcz53_1 : w47.cell? ⟨gb238, 1, none⟩ = some (.int .i64 a0_1) := (blk_cell BK238.out 1).trans rfl
    have hcz53_2 : w47.cell? ⟨gb238, 2, none⟩ = some (.int .i64 a0_2) := (blk_cell BK238.out 2).trans rfl
    have hcz53_3 : w47.cell? ⟨gb238, 3, none⟩ = some (.int .i64 a0_3) := (blk_cell BK238.out 3).trans rfl
    have hcz53_4 : w47.cell? ⟨gb238, 4, none⟩ = some (.int .i64 a0_4) := (blk_cell BK238.out 4).trans rfl
    have hcz53_5 : w47.cell? ⟨gb238, 5, none⟩ = some (.int .i64 a0_5) := (blk_cell BK238.out 5).trans rfl
    have hcz53_6 : w47.cell? ⟨gb238, 6, none⟩ = some (.bool a0_6) := (blk_cell BK238.out 6).trans rfl
    have hfz53_0 := blk_frozen BK238.out 0
    have hfz53_1 := blk_frozen BK238.out 1
    have hfz53_2 := blk_frozen BK238.out 2
    have hfz53_3 := blk_frozen BK238.out 3
    have hfz53_4 := blk_frozen BK238.out 4
    have hfz53_5 := blk_frozen BK238.out 5
    have hfz53_6 := blk_frozen BK238.out 6
    try go_wp2_with (first | ((with_reducible refine gate_callee (f := 27) rfl ?_); refine goesL_ (some 100) rfl rfl Try.func27 (by kernel_rfl) rfl #[.int .i64 (wrap64 (t244 + (wrap64 ((wrap64 ((wrap64 (2 * t251)) + a0_1)) + t244)))), .int .i64 a0_1] rfl (by (try simp only [List.map_toArray, List.map_cons, List.map_nil]); first | done | rfl | (simp only [List.length_drop, List.length_take]; rfl)) ?_; (with_reducible refine (ferruleref16_Up.calls (wrap64 (t244 + (wrap64 ((wrap64 ((wrap64 (2 * t251)) + a0_1)) + t244)))) a0_1 t252 _ A36.out).mono ?_); rintro e w' ⟨rfl, ⟨nd, rfl⟩⟩; refine ⟨_, rfl, ?_⟩))
    have n0_ : Aside0 ((((w47.setCell ⟨gb240, 4, none⟩ (.int .i64 t251)).setCell ⟨gb240, 5, none⟩ (.int .i64 (wrap64 ((wrap64 ((wrap64 (2 * t251)) + a0_1)) + t244)))).setCell ⟨gb240, 6, none⟩ (.int .i64 t252)).heap[gb238]? = some (.cells #[.int .i64 a0_0, .int .i64 a0_1, .int .i64 a0_2, .int .i64 a0_3, .int .i64 a0_4, .int .i64 a0_5, .bool a0_6] 29 (0, 0))) := ⟨by (with_reducible repeat (first | refine blk_drewN ?_ _ | refine blk_drew ?_ | refine blk_alloc ?_ _)); refine blk_far ?_ NB238_240.out _; (with_reducible repeat (first | refine blk_drewN ?_ _ | refine blk_drew ?_ | refine blk_alloc ?_ _)); refine blk_far ?_ NB238_240.out _; (with_reducible repeat (first | refine blk_drewN ?_ _ | refine blk_drew ?_ | refine blk_alloc ?_ _)); refine blk_far ?_ NB238_240.out _; (with_reducible repeat (first | refine blk_drewN ?_ _ | refine blk_drew ?_ | refine blk_alloc ?_ _)); exact BK238.out⟩
    have n1_ : Aside0 ((((w47.setCell ⟨gb240, 4, none⟩ (.int .i64 t251)).setCell ⟨gb240, 5, none⟩ (.int .i64 (wrap64 ((wrap64 ((wrap64 (2 * t251)) + a0_1)) + t244)))).setCell ⟨gb240, 6, none⟩ (.int .i64 t252)).heap[gb239]? = some (.cells #[.int .i64 0, .int .i64 0, .int .i64 0, .int .i64 0, .int .i64 0, .int .i64 0, .int .i64 0, .int .i64 0, .int .i64 0, .int .i64 0, .int .i64 0] 35 (0, 0))) := ⟨by (with_reducible repeat (first | refine blk_drewN ?_ _ | refine blk_drew ?_ | refine blk_alloc ?_ _)); refine blk_far ?_ NB239_240.out _; (with_reducible repeat (first | refine blk_drewN ?_ _ | refine blk_drew ?_ | refine blk_alloc ?_ _)); refine blk_far ?_ NB239_240.out _; (with_reducible repeat (first | refine blk_drewN ?_ _ | refine blk_drew ?_ | refine blk_alloc ?_ _)); refine blk_far ?_ NB239_240.out _; (with_reducible repeat (first | refine blk_drewN ?_ _ | refine blk_drew ?_ | refine blk_alloc ?_ _)); exact BK239.out⟩
    have n2_ : Aside0 ((((w47.setCell ⟨gb240, 4, none⟩ (.int .i64 t251)).setCell ⟨gb240, 5, none⟩ (.int .i64 (wrap64 ((wrap64 ((wrap64 (2 * t251)) + a0_1)) + t244)))).setCell ⟨gb240, 6, none⟩ (.int .i64 t252)).heap[gb240]? = some (.cells #[.int .i64 (wrap64 ((wrap64 (2 * t241)) + t242)), .int .i64 t244, .int .i64 x241002_6, .int .i64 (wrap64 ((wrap64 (t247 + t248)) + t249)), .int .i64 t251, .int .i64 (wrap64 ((wrap64 ((wrap64 (2 * t251)) + a0_1)) + t244)), .int .i64 t252, .int .i64 0, .int .i64 0, .int .i64 0, .int .i64 0] 35 (0, 0))) := ⟨by (with_reducible repeat (first | refine blk_drewN ?_ _ | refine blk_drew ?_ | refine blk_alloc ?_ _)); refine blk_put (cs := #[.int .i64 (wrap64 ((wrap64 (2 * t241)) + t242)), .int .i64 t244, .int .i64 x241002_6, .int .i64 (wrap64 ((wrap64 (t247 + t248)) + t249)), .int .i64 t251, .int .i64 (wrap64 ((wrap64 ((wrap64 (2 * t251)) + a0_1)) + t244)), .int .i64 0, .int .i64 0, .int .i64 0, .int .i64 0, .int .i64 0]) ?_ 6 _ rfl; (with_reducible repeat (first | refine blk_drewN ?_ _ | refine blk_drew ?_ | refine blk_alloc ?_ _)); refine blk_put (cs := #[.int .i64 (wrap64 ((wrap64 (2 * t241)) + t242)), .int .i64 t244, .int .i64 x241002_6, .int .i64 (wrap64 ((wrap64 (t247 + t248)) + t249)), .int .i64 t251, .int .i64 0, .int .i64 0, .int .i64 0, .int .i64 0, .int .i64 0, .int .i64 0]) ?_ 5 _ rfl; (with_reducible repeat (first | refine blk_drewN ?_ _ | refine blk_drew ?_ | refine blk_alloc ?_ _)); refine blk_put (cs := #[.int .i64 (wrap64 ((wrap64 (2 * t241)) + t242)), .int .i64 t244, .int .i64 x241002_6, .int .i64 (wrap64 ((wrap64 (t247 + t248)) + t249)), .int .i64 0, .int .i64 0, .int .i64 0, .int .i64 0, .int .i64 0, .int .i64 0, .int .i64 0]) ?_ 4 _ rfl; (with_reducible repeat (first | refine blk_drewN ?_ _ | refine blk_drew ?_ | refine blk_alloc ?_ _)); exact BK240.out⟩
    have n3_ : Aside0 (Below w.heap.size w (((w47.setCell ⟨gb240, 4, none⟩ (.int .i64 t251)).setCell ⟨gb240, 5, none⟩ (.int .i64 (wrap64 ((wrap64 ((wrap64 (2 * t251)) + a0_1)) + t244)))).setCell ⟨gb240, 6, none⟩ (.int .i64 t252))) := ⟨by repeat (first | (with_reducible first | exact HB.out | apply below_alloc | apply pw_below_drewN | apply below_drew1 | refine below_set ?_ GE238.out | refine below_set ?_ GE239.out | refine below_set ?_ GE240.out) | exact HB.out)⟩
    (try clear BK238)
    (try clear BK239)
    (try clear BK240)
    (try clear HB)
    generalize (((w47.setCell ⟨gb240, 4, none⟩ (.int .i64 t251)).setCell ⟨gb240, 5, none⟩ (.int .i64 (wrap64 ((wrap64 ((wrap64 (2 * t251)) + a0_1)) + t244)))).setCell ⟨gb240, 6, none⟩ (.int .i64 t252)) = w54 at n0_ n1_ n2_ n3_ ⊢
    have BK238 := n0_
    have BK239 := n1_
    have BK240 := n2_
    have HB := n3_
    clear n0_ n1_ n2_ n3_
    (try (rw [drewN_self w54]; generalize hq_ : World.drewN w54 _ = w54; have n0_ : Aside0 (w54.heap[gb238]? = some (.cells #[.int .i64 a0_0, .int .i64 a0_1, .int .i64 a0_2, .int .i64 a0_3, .int .i64 a0_4, .int .i64 a0_5, .bool a0_6] 29 (0, 0))) := ⟨by rw [← hq_]; exact (by (with_reducible repeat (first | refine blk_drewN ?_ _ | refine blk_drew ?_ | refine blk_alloc ?_ _)); exact BK238.out)⟩; have n1_ : Aside0 (w54.heap[gb239]? = some (.cells #[.int .i64 0, .int .i64 0, .int .i64 0, .int .i64 0, .int .i64 0, .int .i64 0, .int .i64 0, .int .i64 0, .int .i64 0, .int .i64 0, .int .i64 0] 35 (0, 0))) := ⟨by rw [← hq_]; exact (by (with_reducible repeat (first | refine blk_drewN ?_ _ | refine blk_drew ?_ | refine blk_alloc ?_ _)); exact BK239.out)⟩; have n2_ : Aside0 (w54.heap[gb240]? = some (.cells #[.int .i64 (wrap64 ((wrap64 (2 * t241)) + t242)), .int .i64 t244, .int .i64 x241002_6, .int .i64 (wrap64 ((wrap64 (t247 + t248)) + t249)), .int .i64 t251, .int .i64 (wrap64 ((wrap64 ((wrap64 (2 * t251)) + a0_1)) + t244)), .int .i64 t252, .int .i64 0, .int .i64 0, .int .i64 0, .int .i64 0] 35 (0, 0))) := ⟨by rw [← hq_]; exact (by (with_reducible repeat (first | refine blk_drewN ?_ _ | refine blk_drew ?_ | refine blk_alloc ?_ _)); exact BK240.out)⟩; have n3_ : Aside0 (Below w.heap.size w w54) := ⟨by rw [← hq_]; exact (by repeat (first | (with_reducible first | exact HB.out | apply below_alloc | apply pw_below_drewN | apply below_drew1 | refine below_set ?_ GE238.out | refine below_set ?_ GE239.out | refine below_set ?_ GE240.out) | exact HB.out))⟩; clear BK238 BK239 BK240 HB hq_; have BK238 := n0_; have BK239 := n1_; have BK240 := n2_; have HB := n3_; clear n0_ n1_ n2_ n3_))
    have n0_ := Aside0.mk (blk_drew BK238.out)
    have n1_ := Aside0.mk (blk_drew BK239.out)
    have n2_ := Aside0.mk (blk_drew BK240.out)
    have n3_ := Aside0.mk (below_drew1 HB.out)
    clear BK238
    clear BK239
    clear BK240
    clear HB
    have BK238 := n0_
    have BK239 := n1_
    have BK240 := n2_
    have HB := n3_
    clear n0_ n1_ n2_ n3_
    refine start_ (n := 11) (S := fun w' => w'.cell? ⟨gb240, 0, none⟩ = some (.int .i64 (wrap64 ((wrap64 (2 * t241)) + t242))) ∧ w'.cell? ⟨gb240, 1, none⟩ = some (.int .i64 t244) ∧ w'.cell? ⟨gb240, 2, none⟩ = some (.int .i64 x241002_6) ∧ w'.cell? ⟨gb240, 3, none⟩ = some (.int .i64 (wrap64 ((wrap64 (t247 + t248)) + t249))) ∧ w'.cell? ⟨gb240, 4, none⟩ = some (.int .i64 t251) ∧ w'.cell? ⟨gb240, 5, none⟩ = some (.int .i64 (wrap64 ((wrap64 ((wrap64 (2 * t251)) + a0_1)) + t244))) ∧ w'.cell? ⟨gb240, 6, none⟩ = some (.int .i64 t252) ∧ w'.cell? ⟨gb240, 7, none⟩ = some (.int .i64 0) ∧ w'.cell? ⟨gb240, 8, none⟩ = some (.int .i64 0) ∧ w'.cell? ⟨gb240, 9, none⟩ = some (.int .i64 0) ∧ w'.cell? ⟨gb240, 10, none⟩ = some (.int .i64 0) ∧ w'.cell? ⟨gb238, 0, none⟩ = some (.int .i64 a0_0) ∧ w'.cell? ⟨gb238, 1, none⟩ = some (.int .i64 a0_1) ∧ w'.cell? ⟨gb238, 2, none⟩ = some (.int .i64 a0_2) ∧ w'.cell? ⟨gb238, 3, none⟩ = some (.int .i64 a0_3) ∧ w'.cell? ⟨gb238, 4, none⟩ = some (.int .i64 a0_4) ∧ w'.cell? ⟨gb238, 5, none⟩ = some (.int .i64 a0_5) ∧ w'.cell? ⟨gb238, 6, none⟩ = some (.bool a0_6)) (ds := [10]) #[false, false, false, false, false, false, false, false, false, false, false] (by kernel_rfl) rfl rfl ⟨(blk_cell BK240.out 0).trans rfl, (blk_cell BK240.out 1).trans rfl, (blk_cell BK240.out 2).trans rfl, (blk_cell BK240.out 3).trans rfl, (blk_cell BK240.out 4).trans rfl, (blk_cell BK240.out 5).trans rfl, (blk_cell BK240.out 6).trans rfl, (blk_cell BK240.out 7).trans rfl, (blk_cell BK240.out 8).trans rfl, (blk_cell BK240.out 9).trans rfl, (blk_cell BK240.out 10).trans rfl, (blk_cell BK238.out 0).trans rfl, (blk_cell BK238.out 1).trans rfl, (blk_cell BK238.out 2).trans rfl, (blk_cell BK238.out 3).trans rfl, (blk_cell BK238.out 4).trans rfl, (blk_cell BK238.out 5).trans rfl, (blk_cell BK238.out 6).trans rfl⟩ (fun hHeld => ?_); refine with_tabW ferruleref16_Of.tab12 ferruleref16_Of.bits12 (fun HT_ HW_ => ?_)
    generalize w54.drew = w55 at BK238 BK239 BK240 HB hHeld ⊢
    refine pure_ (i := 0) (N := some 102) (v := ?_) (a' := ?_) #[true, false, false, false, false, false, false, false, false, false, false] rfl rfl (any_of HT_.out (by kernel_rfl)) (fun _ _ _ h => h) (Or.inl ⟨by rfl, ?_⟩) ?_ ?_
    rotate_left
    · intro w'
      go_simp
      with_reducible rfl
    rotate_left
    · simp only [Act.put, List.setIfInBounds_toArray, List.set_cons_zero, List.set_cons_succ, i64_w, i32_w]
      rfl
    refine pure_ (i := 2) (N := some 104) (v := ?_) (a' := ?_) #[true, false, true, false, false, false, false, false, false, false, false] rfl rfl (any_of HT_.out (by kernel_rfl)) (fun _ _ _ h => h) (Or.inl ⟨by rfl, ?_⟩) ?_ ?_
    rotate_left
    · intro w'
      go_simp
      with_reducible rfl
    rotate_left
    · simp only [Act.put, List.setIfInBounds_toArray, List.set_cons_zero, List.set_cons_succ, i64_w, i32_w]
      rfl
    refine pure_ (i := 4) (N := some 106) (v := ?_) (a' := ?_) #[true, false, true, false, true, false, false, false, false, false, false] rfl rfl (any_of HT_.out (by kernel_rfl)) (fun _ _ _ h => h) (Or.inl ⟨by rfl, ?_⟩) ?_ ?_
    rotate_left
    · intro w'
      go_simp
      with_reducible rfl
    rotate_left
    · simp only [Act.put, List.setIfInBounds_toArray, List.set_cons_zero, List.set_cons_succ, i64_w, i32_w]
      rfl
    refine take_ (i := 1) (N := some 103) (v := ?_) (a' := ?_) #[true, true, true, false, true, false, false, false, false, false, false] rfl rfl (take_ofW HT_.out HW_.out (by kernel_rfl)) (fun _ _ _ h => h) (Or.inl ⟨by rfl, ?_⟩) hHeld ?_ ?_
    rotate_left
    · rintro w' ⟨s0, s1, s2, s3, s4, s5, s6, s7, s8, s9, s10, s11, s12, s13, s14, s15, s16, s17⟩
      go_simp
      with_reducible rfl
    rotate_left
    · simp only [Act.put, List.setIfInBounds_toArray, List.set_cons_zero, List.set_cons_succ, i64_w, i32_w]
      rfl
    refine take_ (i := 3) (N := some 105) (v := ?_) (a' := ?_) #[true, true, true, true, true, false, false, false, false, false, false] rfl rfl (take_ofW HT_.out HW_.out (by kernel_rfl)) (fun _ _ _ h => h) (Or.inl ⟨by rfl, ?_⟩) hHeld ?_ ?_
    rotate_left
    · rintro w' ⟨s0, s1, s2, s3, s4, s5, s6, s7, s8, s9, s10, s11, s12, s13, s14, s15, s16, s17⟩
      go_simp
      with_reducible rfl
    rotate_left
    · simp only [Act.put, List.setIfInBounds_toArray, List.set_cons_zero, List.set_cons_succ, i64_w, i32_w]
      rfl
    refine take_ (i := 5) (N := some 107) (v := ?_) (a' := ?_) #[true, true, true, true, true, true, false, false, false, false, false] rfl rfl (take_ofW HT_.out HW_.out (by kernel_rfl)) (fun _ _ _ h => h) (Or.inl ⟨by rfl, ?_⟩) hHeld ?_ ?_
    rotate_left
    · rintro w' ⟨s0, s1, s2, s3, s4, s5, s6, s7, s8, s9, s10, s11, s12, s13, s14, s15, s16, s17⟩
      go_simp
      with_reducible rfl
    rotate_left
    · simp only [Act.put, List.setIfInBounds_toArray, List.set_cons_zero, List.set_cons_succ, i64_w, i32_w]
      rfl
    refine one_ (i := 6) (N := some 108) #[true, true, true, true, true, true, true, false, false, false, false] rfl rfl (one_of HT_.out (by kernel_rfl)) (by decide) (fun K hK => ?_)
    refine goes_ Try.func27 (by kernel_rfl) rfl #[.int .i64 t244, .int .i64 a0_1] (by rfl) rfl rfl (by (try simp only [List.map_toArray, List.map_cons, List.map_nil]); first | done | rfl | (simp only [List.length_drop, List.length_take]; rfl)) ?_
    with_reducible refine (ferruleref16_Up.calls t244 a0_1 t253 _ A37.out).mono ?_
    rintro e w' ⟨rfl, ⟨nd, rfl⟩⟩
    refine ⟨_, rfl, ?_⟩
    refine hK.out _ _ ⟨(blk_cell BK240.out 0).trans rfl, (blk_cell BK240.out 1).trans rfl, (blk_cell BK240.out 2).trans rfl, (blk_cell BK240.out 3).trans rfl, (blk_cell BK240.out 4).trans rfl, (blk_cell BK240.out 5).trans rfl, (blk_cell BK240.out 6).trans rfl, (blk_cell BK240.out 7).trans rfl, (blk_cell BK240.out 8).trans rfl, (blk_cell BK240.out 9).trans rfl, (blk_cell BK240.out 10).trans rfl, (blk_cell BK238.out 0).trans rfl, (blk_cell BK238.out 1).trans rfl, (blk_cell BK238.out 2).trans rfl, (blk_cell BK238.out 3).trans rfl, (blk_cell BK238.out 4).trans rfl, (blk_cell BK238.out 5).trans rfl, (blk_cell BK238.out 6).trans rfl⟩ (fun hHeld => ?_)
    clear hK K
    refine norm_ (a' := ?_) ?_ ?_
    rotate_left
    · show Act.put _ (some 108) _ = _
      simp only [Act.put, List.setIfInBounds_toArray, List.set_cons_zero, List.set_cons_succ, i64_w, i32_w]
      rfl
    refine pure_ (i := 7) (N := some 109) (v := ?_) (a' := ?_) #[true, true, true, true, true, true, true, true, false, false, false] rfl rfl (any_of HT_.out (by kernel_rfl)) (fun _ _ _ h => h) (Or.inl ⟨by rfl, ?_⟩) ?_ ?_
    rotate_left
    · intro w'
      go_simp
      with_reducible rfl
    rotate_left
    · simp only [Act.put, List.setIfInBounds_toArray, List.set_cons_zero, List.set_cons_succ, i64_w, i32_w]
      rfl
    refine pure_ (i := 8) (N := some 110) (v := ?_) (a' := ?_) #[true, true, true, true, true, true, true, true, true, false, false] rfl rfl (any_of HT_.out (by kernel_rfl)) (fun _ _ _ h => h) (Or.inl ⟨by rfl, ?_⟩) ?_ ?_
    rotate_left
    · intro w'
      go_simp
      with_reducible rfl
    rotate_left
    · simp only [Act.put, List.setIfInBounds_toArray, List.set_cons_zero, List.set_cons_succ, i64_w, i32_w]
      rfl
    refine pure_ (i := 9) (N := some 111) (v := ?_) (a' := ?_) #[true, true, true, true, true, true, true, true, true, true, false] rfl rfl (any_of HT_.out (by kernel_rfl)) (fun _ _ _ h => h) (Or.inl ⟨by rfl, ?_⟩) ?_ ?_
    rotate_left
    · intro w'
      go_simp
      with_reducible rfl
    rotate_left
    · simp only [Act.put, List.setIfInBounds_toArray, List.set_cons_zero, List.set_cons_succ, i64_w, i32_w]
      rfl
    refine last_ (i := 10) (N := none) #[true, true, true, true, true, true, true, true, true, true, true] rfl rfl (one_of HT_.out (by kernel_rfl)) (by decide) (fun K hK => ?_)
    have hs56 : w55.cell? ⟨gb240, 7, none⟩ = some (.int .i64 0) := (blk_cell BK240.out 7).trans rfl
    have hfs56 := blk_frozen BK240.out 7
    have hns56_0 := NB238_240.out
    have hns56_1 := NB239_240.out
    have hms56_0 := NB240_238.out
    have hms56_1 := NB240_239.out
    refine skip_ (w1 := ?_) (by rfl) rfl ?_ ?_
    rotate_left
    · go_simp
      rfl
    refine hK.out _ _ ?_
    clear hK K
    refine done_ (done_of HT_.out (by kernel_rfl)) ?_
    have hcz57_0 : w55.cell? ⟨gb238, 0, none⟩ = some (.int .i64 a0_0) := (blk_cell BK238.out 0).trans rfl
    have hcz57_1 : w55.cell? ⟨gb238, 1, none⟩ = some (.int .i64 a0_1) := (blk_cell BK238.out 1).trans rfl
    have hcz57_2 : w55.cell? ⟨gb238, 2, none⟩ = some (.int .i64 a0_2) := (blk_cell BK238.out 2).trans rfl
    have hcz57_3 : w55.cell? ⟨gb238, 3, none⟩ = some (.int .i64 a0_3) := (blk_cell BK238.out 3).trans rfl
    have hcz57_4 : w55.cell? ⟨gb238, 4, none⟩ = some (.int .i64 a0_4) := (blk_cell BK238.out 4).trans rfl
    have hcz57_5 : w55.cell? ⟨gb238, 5, none⟩ = some (.int .i64 a0_5) := (blk_cell BK238.out 5).trans rfl
    have hcz57_6 : w55.cell? ⟨gb238, 6, none⟩ = some (.bool a0_6) := (blk_cell BK238.out 6).trans rfl
    have hfz57_0 := blk_frozen BK238.out 0
    have hfz57_1 := blk_frozen BK238.out 1
    have hfz57_2 := blk_frozen BK238.out 2
    have hfz57_3 := blk_frozen BK238.out 3
    have hfz57_4 := blk_frozen BK238.out 4
    have hfz57_5 := blk_frozen BK238.out 5
    have hfz57_6 := blk_frozen BK238.out 6
    try go_wp2_with (first | ((with_reducible refine gate_callee (f := 27) rfl ?_); refine goesL_ (some 116) rfl rfl Try.func27 (by kernel_rfl) rfl #[.int .i64 a0_2, .int .i64 a0_5] rfl (by (try simp only [List.map_toArray, List.map_cons, List.map_nil]); first | done | rfl | (simp only [List.length_drop, List.length_take]; rfl)) ?_; (with_reducible refine (ferruleref16_Up.calls a0_2 a0_5 t254 _ A38.out).mono ?_); rintro e w' ⟨rfl, ⟨nd, rfl⟩⟩; refine ⟨_, rfl, ?_⟩; have hcz58_0 : w55.cell? ⟨gb240, 0, none⟩ = some (.int .i64 (wrap64 ((wrap64 (2 * t241)) + t242))) := (blk_cell BK240.out 0).trans rfl; have hcz58_1 : w55.cell? ⟨gb240, 1, none⟩ = some (.int .i64 t244) := (blk_cell BK240.out 1).trans rfl; have hcz58_2 : w55.cell? ⟨gb240, 2, none⟩ = some (.int .i64 x241002_6) := (blk_cell BK240.out 2).trans rfl; have hcz58_3 : w55.cell? ⟨gb240, 3, none⟩ = some (.int .i64 (wrap64 ((wrap64 (t247 + t248)) + t249))) := (blk_cell BK240.out 3).trans rfl; have hcz58_4 : w55.cell? ⟨gb240, 4, none⟩ = some (.int .i64 t251) := (blk_cell BK240.out 4).trans rfl; have hcz58_5 : w55.cell? ⟨gb240, 5, none⟩ = some (.int .i64 (wrap64 ((wrap64 ((wrap64 (2 * t251)) + a0_1)) + t244))) := (blk_cell BK240.out 5).trans rfl; have hcz58_6 : w55.cell? ⟨gb240, 6, none⟩ = some (.int .i64 t252) := (blk_cell BK240.out 6).trans rfl; have hcz58_7 : w55.cell? ⟨gb240, 7, none⟩ = some (.int .i64 0) := (blk_cell BK240.out 7).trans rfl; have hcz58_8 : w55.cell? ⟨gb240, 8, none⟩ = some (.int .i64 0) := (blk_cell BK240.out 8).trans rfl; have hcz58_9 : w55.cell? ⟨gb240, 9, none⟩ = some (.int .i64 0) := (blk_cell BK240.out 9).trans rfl; have hcz58_10 : w55.cell? ⟨gb240, 10, none⟩ = some (.int .i64 0) := (blk_cell BK240.out 10).trans rfl; have hfz58_0 := blk_frozen BK240.out 0; have hfz58_1 := blk_frozen BK240.out 1; have hfz58_2 := blk_frozen BK240.out 2; have hfz58_3 := blk_frozen BK240.out 3; have hfz58_4 := blk_frozen BK240.out 4; have hfz58_5 := blk_frozen BK240.out 5; have hfz58_6 := blk_frozen BK240.out 6; have hfz58_7 := blk_frozen BK240.out 7; have hfz58_8 := blk_frozen BK240.out 8; have hfz58_9 := blk_frozen BK240.out 9; have hfz58_10 := blk_frozen BK240.out 10))
    have n0_ : Aside0 (((w55.setCell ⟨gb240, 7, none⟩ (.int .i64 (wrap64 ((wrap64 (t252 + t253)) + 3)))).setCell ⟨gb240, 8, none⟩ (.int .i64 t254)).heap[gb238]? = some (.cells #[.int .i64 a0_0, .int .i64 a0_1, .int .i64 a0_2, .int .i64 a0_3, .int .i64 a0_4, .int .i64 a0_5, .bool a0_6] 29 (0, 0))) := ⟨by (with_reducible repeat (first | refine blk_drewN ?_ _ | refine blk_drew ?_ | refine blk_alloc ?_ _)); refine blk_far ?_ NB238_240.out _; (with_reducible repeat (first | refine blk_drewN ?_ _ | refine blk_drew ?_ | refine blk_alloc ?_ _)); refine blk_far ?_ NB238_240.out _; (with_reducible repeat (first | refine blk_drewN ?_ _ | refine blk_drew ?_ | refine blk_alloc ?_ _)); exact BK238.out⟩
    have n1_ : Aside0 (((w55.setCell ⟨gb240, 7, none⟩ (.int .i64 (wrap64 ((wrap64 (t252 + t253)) + 3)))).setCell ⟨gb240, 8, none⟩ (.int .i64 t254)).heap[gb239]? = some (.cells #[.int .i64 0, .int .i64 0, .int .i64 0, .int .i64 0, .int .i64 0, .int .i64 0, .int .i64 0, .int .i64 0, .int .i64 0, .int .i64 0, .int .i64 0] 35 (0, 0))) := ⟨by (with_reducible repeat (first | refine blk_drewN ?_ _ | refine blk_drew ?_ | refine blk_alloc ?_ _)); refine blk_far ?_ NB239_240.out _; (with_reducible repeat (first | refine blk_drewN ?_ _ | refine blk_drew ?_ | refine blk_alloc ?_ _)); refine blk_far ?_ NB239_240.out _; (with_reducible repeat (first | refine blk_drewN ?_ _ | refine blk_drew ?_ | refine blk_alloc ?_ _)); exact BK239.out⟩
    have n2_ : Aside0 (((w55.setCell ⟨gb240, 7, none⟩ (.int .i64 (wrap64 ((wrap64 (t252 + t253)) + 3)))).setCell ⟨gb240, 8, none⟩ (.int .i64 t254)).heap[gb240]? = some (.cells #[.int .i64 (wrap64 ((wrap64 (2 * t241)) + t242)), .int .i64 t244, .int .i64 x241002_6, .int .i64 (wrap64 ((wrap64 (t247 + t248)) + t249)), .int .i64 t251, .int .i64 (wrap64 ((wrap64 ((wrap64 (2 * t251)) + a0_1)) + t244)), .int .i64 t252, .int .i64 (wrap64 ((wrap64 (t252 + t253)) + 3)), .int .i64 t254, .int .i64 0, .int .i64 0] 35 (0, 0))) := ⟨by (with_reducible repeat (first | refine blk_drewN ?_ _ | refine blk_drew ?_ | refine blk_alloc ?_ _)); refine blk_put (cs := #[.int .i64 (wrap64 ((wrap64 (2 * t241)) + t242)), .int .i64 t244, .int .i64 x241002_6, .int .i64 (wrap64 ((wrap64 (t247 + t248)) + t249)), .int .i64 t251, .int .i64 (wrap64 ((wrap64 ((wrap64 (2 * t251)) + a0_1)) + t244)), .int .i64 t252, .int .i64 (wrap64 ((wrap64 (t252 + t253)) + 3)), .int .i64 0, .int .i64 0, .int .i64 0]) ?_ 8 _ rfl; (with_reducible repeat (first | refine blk_drewN ?_ _ | refine blk_drew ?_ | refine blk_alloc ?_ _)); refine blk_put (cs := #[.int .i64 (wrap64 ((wrap64 (2 * t241)) + t242)), .int .i64 t244, .int .i64 x241002_6, .int .i64 (wrap64 ((wrap64 (t247 + t248)) + t249)), .int .i64 t251, .int .i64 (wrap64 ((wrap64 ((wrap64 (2 * t251)) + a0_1)) + t244)), .int .i64 t252, .int .i64 0, .int .i64 0, .int .i64 0, .int .i64 0]) ?_ 7 _ rfl; (with_reducible repeat (first | refine blk_drewN ?_ _ | refine blk_drew ?_ | refine blk_alloc ?_ _)); exact BK240.out⟩
    have n3_ : Aside0 (Below w.heap.size w ((w55.setCell ⟨gb240, 7, none⟩ (.int .i64 (wrap64 ((wrap64 (t252 + t253)) + 3)))).setCell ⟨gb240, 8, none⟩ (.int .i64 t254))) := ⟨by repeat (first | (with_reducible first | exact HB.out | apply below_alloc | apply pw_below_drewN | apply below_drew1 | refine below_set ?_ GE238.out | refine below_set ?_ GE239.out | refine below_set ?_ GE240.out) | exact HB.out)⟩
    (try clear BK238)
    (try clear BK239)
    (try clear BK240)
    (try clear HB)
    generalize ((w55.setCell ⟨gb240, 7, none⟩ (.int .i64 (wrap64 ((wrap64 (t252 + t253)) + 3)))).setCell ⟨gb240, 8, none⟩ (.int .i64 t254)) = w59 at n0_ n1_ n2_ n3_ ⊢
    have BK238 := n0_
    have BK239 := n1_
    have BK240 := n2_
    have HB := n3_
    clear n0_ n1_ n2_ n3_
    (try (rw [drewN_self w59]; generalize hq_ : World.drewN w59 _ = w59; have n0_ : Aside0 (w59.heap[gb238]? = some (.cells #[.int .i64 a0_0, .int .i64 a0_1, .int .i64 a0_2, .int .i64 a0_3, .int .i64 a0_4, .int .i64 a0_5, .bool a0_6] 29 (0, 0))) := ⟨by rw [← hq_]; exact (by (with_reducible repeat (first | refine blk_drewN ?_ _ | refine blk_drew ?_ | refine blk_alloc ?_ _)); exact BK238.out)⟩; have n1_ : Aside0 (w59.heap[gb239]? = some (.cells #[.int .i64 0, .int .i64 0, .int .i64 0, .int .i64 0, .int .i64 0, .int .i64 0, .int .i64 0, .int .i64 0, .int .i64 0, .int .i64 0, .int .i64 0] 35 (0, 0))) := ⟨by rw [← hq_]; exact (by (with_reducible repeat (first | refine blk_drewN ?_ _ | refine blk_drew ?_ | refine blk_alloc ?_ _)); exact BK239.out)⟩; have n2_ : Aside0 (w59.heap[gb240]? = some (.cells #[.int .i64 (wrap64 ((wrap64 (2 * t241)) + t242)), .int .i64 t244, .int .i64 x241002_6, .int .i64 (wrap64 ((wrap64 (t247 + t248)) + t249)), .int .i64 t251, .int .i64 (wrap64 ((wrap64 ((wrap64 (2 * t251)) + a0_1)) + t244)), .int .i64 t252, .int .i64 (wrap64 ((wrap64 (t252 + t253)) + 3)), .int .i64 t254, .int .i64 0, .int .i64 0] 35 (0, 0))) := ⟨by rw [← hq_]; exact (by (with_reducible repeat (first | refine blk_drewN ?_ _ | refine blk_drew ?_ | refine blk_alloc ?_ _)); exact BK240.out)⟩; have n3_ : Aside0 (Below w.heap.size w w59) := ⟨by rw [← hq_]; exact (by repeat (first | (with_reducible first | exact HB.out | apply below_alloc | apply pw_below_drewN | apply below_drew1 | refine below_set ?_ GE238.out | refine below_set ?_ GE239.out | refine below_set ?_ GE240.out) | exact HB.out))⟩; clear BK238 BK239 BK240 HB hq_; have BK238 := n0_; have BK239 := n1_; have BK240 := n2_; have HB := n3_; clear n0_ n1_ n2_ n3_))
    have n0_ := Aside0.mk (blk_drew BK238.out)
    have n1_ := Aside0.mk (blk_drew BK239.out)
    have n2_ := Aside0.mk (blk_drew BK240.out)
    have n3_ := Aside0.mk (below_drew1 HB.out)
    clear BK238
    clear BK239
    clear BK240
    clear HB
    have BK238 := n0_
    have BK239 := n1_
    have BK240 := n2_
    have HB := n3_
    clear n0_ n1_ n2_ n3_
    refine start_ (n := 12) (S := fun w' => w'.cell? ⟨gb238, 0, none⟩ = some (.int .i64 a0_0) ∧ w'.cell? ⟨gb238, 1, none⟩ = some (.int .i64 a0_1) ∧ w'.cell? ⟨gb238, 2, none⟩ = some (.int .i64 a0_2) ∧ w'.cell? ⟨gb238, 3, none⟩ = some (.int .i64 a0_3) ∧ w'.cell? ⟨gb238, 4, none⟩ = some (.int .i64 a0_4) ∧ w'.cell? ⟨gb238, 5, none⟩ = some (.int .i64 a0_5) ∧ w'.cell? ⟨gb238, 6, none⟩ = some (.bool a0_6)) (ds := []) #[false, false, false, false, false, false, false, false, false, false, false, false] (by kernel_rfl) rfl rfl ⟨(blk_cell BK238.out 0).trans rfl, (blk_cell BK238.out 1).trans rfl, (blk_cell BK238.out 2).trans rfl, (blk_cell BK238.out 3).trans rfl, (blk_cell BK238.out 4).trans rfl, (blk_cell BK238.out 5).trans rfl, (blk_cell BK238.out 6).trans rfl⟩ (fun hHeld => ?_); refine with_tabW ferruleref16_Of.tab14 ferruleref16_Of.bits14 (fun HT_ HW_ => ?_)
    generalize w59.drew = w60 at BK238 BK239 BK240 HB hHeld ⊢
    refine pure_ (i := 0) (N := some 118) (v := ?_) (a' := ?_) #[true, false, false, false, false, false, false, false, false, false, false, false] rfl rfl (any_of HT_.out (by kernel_rfl)) (fun _ _ _ h => h) (Or.inl ⟨by rfl, ?_⟩) ?_ ?_
    rotate_left
    · intro w'
      go_simp
      with_reducible rfl
    rotate_left
    · simp only [Act.put, List.setIfInBounds_toArray, List.set_cons_zero, List.set_cons_succ, i64_w, i32_w]
      rfl
    refine pure_ (i := 2) (N := some 120) (v := ?_) (a' := ?_) #[true, false, true, false, false, false, false, false, false, false, false, false] rfl rfl (any_of HT_.out (by kernel_rfl)) (fun _ _ _ h => h) (Or.inl ⟨by rfl, ?_⟩) ?_ ?_
    rotate_left
    · intro w'
      go_simp
      with_reducible rfl
    rotate_left
    · simp only [Act.put, List.setIfInBounds_toArray, List.set_cons_zero, List.set_cons_succ, i64_w, i32_w]
      rfl
    refine pure_ (i := 6) (N := some 124) (v := ?_) (a' := ?_) #[true, false, true, false, false, false, true, false, false, false, false, false] rfl rfl (any_of HT_.out (by kernel_rfl)) (fun _ _ _ h => h) (Or.inl ⟨by rfl, ?_⟩) ?_ ?_
    rotate_left
    · intro w'
      go_simp
      with_reducible rfl
    rotate_left
    · simp only [Act.put, List.setIfInBounds_toArray, List.set_cons_zero, List.set_cons_succ, i64_w, i32_w]
      rfl
    refine take_ (i := 1) (N := some 119) (v := ?_) (a' := ?_) #[true, true, true, false, false, false, true, false, false, false, false, false] rfl rfl (take_ofW HT_.out HW_.out (by kernel_rfl)) (fun _ _ _ h => h) (Or.inl ⟨by rfl, ?_⟩) hHeld ?_ ?_
    rotate_left
    · rintro w' ⟨s0, s1, s2, s3, s4, s5, s6⟩
      go_simp
      with_reducible rfl
    rotate_left
    · simp only [Act.put, List.setIfInBounds_toArray, List.set_cons_zero, List.set_cons_succ, i64_w, i32_w]
      rfl
    refine take_ (i := 3) (N := some 121) (v := ?_) (a' := ?_) #[true, true, true, true, false, false, true, false, false, false, false, false] rfl rfl (take_ofW HT_.out HW_.out (by kernel_rfl)) (fun _ _ _ h => h) (Or.inl ⟨by rfl, ?_⟩) hHeld ?_ ?_
    rotate_left
    · rintro w' ⟨s0, s1, s2, s3, s4, s5, s6⟩
      go_simp
      with_reducible rfl
    rotate_left
    · simp only [Act.put, List.setIfInBounds_toArray, List.set_cons_zero, List.set_cons_succ, i64_w, i32_w]
      rfl
    refine take_ (i := 7) (N := some 125) (v := ?_) (a' := ?_) #[true, true, true, true, false, false, true, true, false, false, false, false] rfl rfl (take_ofW HT_.out HW_.out (by kernel_rfl)) (fun _ _ _ h => h) (Or.inl ⟨by rfl, ?_⟩) hHeld ?_ ?_
    rotate_left
    · rintro w' ⟨s0, s1, s2, s3, s4, s5, s6⟩
      go_simp
      with_reducible rfl
    rotate_left
    · simp only [Act.put, List.setIfInBounds_toArray, List.set_cons_zero, List.set_cons_succ, i64_w, i32_w]
      rfl
    refine pure_ (i := 8) (N := some 126) (v := ?_) (a' := ?_) #[true, true, true, true, false, false, true, true, true, false, false, false] rfl rfl (any_of HT_.out (by kernel_rfl)) (fun _ _ _ h => h) (Or.inl ⟨by rfl, ?_⟩) ?_ ?_
    rotate_left
    · intro w'
      go_simp
      with_reducible rfl
    rotate_left
    · simp only [Act.put, List.setIfInBounds_toArray, List.set_cons_zero, List.set_cons_succ, i64_w, i32_w]
      rfl
    refine one_ (i := 4) (N := some 122) #[true, true, true, true, true, false, true, true, true, false, false, false] rfl rfl (one_of HT_.out (by kernel_rfl)) (by decide) (fun K hK => ?_)
    refine goes_ Try.func27 (by kernel_rfl) rfl #[.int .i64 a0_2, .int .i64 a0_1] (by rfl) rfl rfl (by (try simp only [List.map_toArray, List.map_cons, List.map_nil]); first | done | rfl | (simp only [List.length_drop, List.length_take]; rfl)) ?_
    with_reducible refine (ferruleref16_Up.calls a0_2 a0_1 t255 _ A39.out).mono ?_
    rintro e w' ⟨rfl, ⟨nd, rfl⟩⟩
    refine ⟨_, rfl, ?_⟩
    refine hK.out _ _ ⟨(blk_cell BK238.out 0).trans rfl, (blk_cell BK238.out 1).trans rfl, (blk_cell BK238.out 2).trans rfl, (blk_cell BK238.out 3).trans rfl, (blk_cell BK238.out 4).trans rfl, (blk_cell BK238.out 5).trans rfl, (blk_cell BK238.out 6).trans rfl⟩ (fun hHeld => ?_)
    clear hK K
    refine norm_ (a' := ?_) ?_ ?_
    rotate_left
    · show Act.put _ (some 122) _ = _
      simp only [Act.put, List.setIfInBounds_toArray, List.set_cons_zero, List.set_cons_succ, i64_w, i32_w]
      rfl
    refine pure_ (i := 5) (N := some 123) (v := ?_) (a' := ?_) #[true, true, true, true, true, true, true, true, true, false, false, false] rfl rfl (any_of HT_.out (by kernel_rfl)) (fun _ _ _ h => h) (Or.inl ⟨by rfl, ?_⟩) ?_ ?_
    rotate_left
    · intro w'
      go_simp
      with_reducible rfl
    rotate_left
    · simp only [Act.put, List.setIfInBounds_toArray, List.set_cons_zero, List.set_cons_succ, i64_w, i32_w]
      rfl
    refine pure_ (i := 9) (N := some 127) (v := ?_) (a' := ?_) #[true, true, true, true, true, true, true, true, true, true, false, false] rfl rfl (any_of HT_.out (by kernel_rfl)) (fun _ _ _ h => h) (Or.inl ⟨by rfl, ?_⟩) ?_ ?_
    rotate_left
    · intro w'
      go_simp
      with_reducible rfl
    rotate_left
    · simp only [Act.put, List.setIfInBounds_toArray, List.set_cons_zero, List.set_cons_succ, i64_w, i32_w]
      rfl
    refine pure_ (i := 10) (N := some 128) (v := ?_) (a' := ?_) #[true, true, true, true, true, true, true, true, true, true, true, false] rfl rfl (any_of HT_.out (by kernel_rfl)) (fun _ _ _ h => h) (Or.inl ⟨by rfl, ?_⟩) ?_ ?_
    rotate_left
    · intro w'
      go_simp
      with_reducible rfl
    rotate_left
    · simp only [Act.put, List.setIfInBounds_toArray, List.set_cons_zero, List.set_cons_succ, i64_w, i32_w]
      rfl
    refine one_ (i := 11) (N := none) #[true, true, true, true, true, true, true, true, true, true, true, true] rfl rfl (one_of HT_.out (by kernel_rfl)) (by decide) (fun K hK => ?_)
    have hs61 : w60.cell? ⟨gb240, 9, none⟩ = some (.int .i64 0) := (blk_cell BK240.out 9).trans rfl
    have hfs61 := blk_frozen BK240.out 9
    have hns61_0 := NB238_240.out
    have hns61_1 := NB239_240.out
    have hms61_0 := NB240_238.out
    have hms61_1 := NB240_239.out
    refine skip_ (w1 := ?_) (by rfl) rfl ?_ ?_
    rotate_left
    · go_simp
      rfl
    refine hK.out _ _ ⟨((cell_far (p := ⟨gb240, _, none⟩) NB238_240.out _).trans (hHeld.1)), ((cell_far (p := ⟨gb240, _, none⟩) NB238_240.out _).trans (hHeld.2.1)), ((cell_far (p := ⟨gb240, _, none⟩) NB238_240.out _).trans (hHeld.2.2.1)), ((cell_far (p := ⟨gb240, _, none⟩) NB238_240.out _).trans (hHeld.2.2.2.1)), ((cell_far (p := ⟨gb240, _, none⟩) NB238_240.out _).trans (hHeld.2.2.2.2.1)), ((cell_far (p := ⟨gb240, _, none⟩) NB238_240.out _).trans (hHeld.2.2.2.2.2.1)), ((cell_far (p := ⟨gb240, _, none⟩) NB238_240.out _).trans (hHeld.2.2.2.2.2.2))⟩ (fun hHeld => ?_)
    clear hK K
    refine done_ (done_of HT_.out (by kernel_rfl)) ?_
    have hcz62_0 : w60.cell? ⟨gb238, 0, none⟩ = some (.int .i64 a0_0) := (blk_cell BK238.out 0).trans rfl
    have hcz62_1 : w60.cell? ⟨gb238, 1, none⟩ = some (.int .i64 a0_1) := (blk_cell BK238.out 1).trans rfl
    have hcz62_2 : w60.cell? ⟨gb238, 2, none⟩ = some (.int .i64 a0_2) := (blk_cell BK238.out 2).trans rfl
    have hcz62_3 : w60.cell? ⟨gb238, 3, none⟩ = some (.int .i64 a0_3) := (blk_cell BK238.out 3).trans rfl
    have hcz62_4 : w60.cell? ⟨gb238, 4, none⟩ = some (.int .i64 a0_4) := (blk_cell BK238.out 4).trans rfl
    have hcz62_5 : w60.cell? ⟨gb238, 5, none⟩ = some (.int .i64 a0_5) := (blk_cell BK238.out 5).trans rfl
    have hcz62_6 : w60.cell? ⟨gb238, 6, none⟩ = some (.bool a0_6) := (blk_cell BK238.out 6).trans rfl
    have hfz62_0 := blk_frozen BK238.out 0
    have hfz62_1 := blk_frozen BK238.out 1
    have hfz62_2 := blk_frozen BK238.out 2
    have hfz62_3 := blk_frozen BK238.out 3
    have hfz62_4 := blk_frozen BK238.out 4
    have hfz62_5 := blk_frozen BK238.out 5
    have hfz62_6 := blk_frozen BK238.out 6
    have hcz63_0 : w60.cell? ⟨gb240, 0, none⟩ = some (.int .i64 (wrap64 ((wrap64 (2 * t241)) + t242))) := (blk_cell BK240.out 0).trans rfl
    have hcz63_1 : w60.cell? ⟨gb240, 1, none⟩ = some (.int .i64 t244) := (blk_cell BK240.out 1).trans rfl
    have hcz63_2 : w60.cell? ⟨gb240, 2, none⟩ = some (.int .i64 x241002_6) := (blk_cell BK240.out 2).trans rfl
    have hcz63_3 : w60.cell? ⟨gb240, 3, none⟩ = some (.int .i64 (wrap64 ((wrap64 (t247 + t248)) + t249))) := (blk_cell BK240.out 3).trans rfl
    have hcz63_4 : w60.cell? ⟨gb240, 4, none⟩ = some (.int .i64 t251) := (blk_cell BK240.out 4).trans rfl
    have hcz63_5 : w60.cell? ⟨gb240, 5, none⟩ = some (.int .i64 (wrap64 ((wrap64 ((wrap64 (2 * t251)) + a0_1)) + t244))) := (blk_cell BK240.out 5).trans rfl
    have hcz63_6 : w60.cell? ⟨gb240, 6, none⟩ = some (.int .i64 t252) := (blk_cell BK240.out 6).trans rfl
    have hcz63_7 : w60.cell? ⟨gb240, 7, none⟩ = some (.int .i64 (wrap64 ((wrap64 (t252 + t253)) + 3))) := (blk_cell BK240.out 7).trans rfl
    have hcz63_8 : w60.cell? ⟨gb240, 8, none⟩ = some (.int .i64 t254) := (blk_cell BK240.out 8).trans rfl
    have hcz63_9 : w60.cell? ⟨gb240, 9, none⟩ = some (.int .i64 0) := (blk_cell BK240.out 9).trans rfl
    have hcz63_10 : w60.cell? ⟨gb240, 10, none⟩ = some (.int .i64 0) := (blk_cell BK240.out 10).trans rfl
    have hfz63_0 := blk_frozen BK240.out 0
    have hfz63_1 := blk_frozen BK240.out 1
    have hfz63_2 := blk_frozen BK240.out 2
    have hfz63_3 := blk_frozen BK240.out 3
    have hfz63_4 := blk_frozen BK240.out 4
    have hfz63_5 := blk_frozen BK240.out 5
    have hfz63_6 := blk_frozen BK240.out 6
    have hfz63_7 := blk_frozen BK240.out 7
    have hfz63_8 := blk_frozen BK240.out 8
    have hfz63_9 := blk_frozen BK240.out 9
    have hfz63_10 := blk_frozen BK240.out 10
    have hcz64_0 : w60.cell? ⟨gb239, 0, none⟩ = some (.int .i64 0) := (blk_cell BK239.out 0).trans rfl
    have hcz64_1 : w60.cell? ⟨gb239, 1, none⟩ = some (.int .i64 0) := (blk_cell BK239.out 1).trans rfl
    have hcz64_2 : w60.cell? ⟨gb239, 2, none⟩ = some (.int .i64 0) := (blk_cell BK239.out 2).trans rfl
    have hcz64_3 : w60.cell? ⟨gb239, 3, none⟩ = some (.int .i64 0) := (blk_cell BK239.out 3).trans rfl
    have hcz64_4 : w60.cell? ⟨gb239, 4, none⟩ = some (.int .i64 0) := (blk_cell BK239.out 4).trans rfl
    have hcz64_5 : w60.cell? ⟨gb239, 5, none⟩ = some (.int .i64 0) := (blk_cell BK239.out 5).trans rfl
    have hcz64_6 : w60.cell? ⟨gb239, 6, none⟩ = some (.int .i64 0) := (blk_cell BK239.out 6).trans rfl
    have hcz64_7 : w60.cell? ⟨gb239, 7, none⟩ = some (.int .i64 0) := (blk_cell BK239.out 7).trans rfl
    have hcz64_8 : w60.cell? ⟨gb239, 8, none⟩ = some (.int .i64 0) := (blk_cell BK239.out 8).trans rfl
    have hcz64_9 : w60.cell? ⟨gb239, 9, none⟩ = some (.int .i64 0) := (blk_cell BK239.out 9).trans rfl
    have hcz64_10 : w60.cell? ⟨gb239, 10, none⟩ = some (.int .i64 0) := (blk_cell BK239.out 10).trans rfl
    have hfz64_0 := blk_frozen BK239.out 0
    have hfz64_1 := blk_frozen BK239.out 1
    have hfz64_2 := blk_frozen BK239.out 2
    have hfz64_3 := blk_frozen BK239.out 3
    have hfz64_4 := blk_frozen BK239.out 4
    have hfz64_5 := blk_frozen BK239.out 5
    have hfz64_6 := blk_frozen BK239.out 6
    have hfz64_7 := blk_frozen BK239.out 7
    have hfz64_8 := blk_frozen BK239.out 8
    have hfz64_9 := blk_frozen BK239.out 9
    have hfz64_10 := blk_frozen BK239.out 10
    try go_wp2
    refine bodyPost_ret (results_cell_row rfl _ _ gb239 35 #[.int .i64 (wrap64 ((wrap64 (2 * t241)) + t242)), .int .i64 t244, .int .i64 x241002_6, .int .i64 (wrap64 ((wrap64 (t247 + t248)) + t249)), .int .i64 t251, .int .i64 (wrap64 ((wrap64 ((wrap64 (2 * t251)) + a0_1)) + t244)), .int .i64 t252, .int .i64 (wrap64 ((wrap64 (t252 + t253)) + 3)), .int .i64 t254, .int .i64 (wrap64 ((wrap64 (t255 + 8)) + (wrap64 (4 * a0_3)))), .int .i64 (wrap64 (a0_0 + (wrap64 ((wrap64 (2 * a0_1)) * (wrap64 ((wrap64 (t252 + 2)) + a0_3))))))] (0, 0) _ rfl (by (with_reducible repeat (first | refine blk_drewN ?_ _ | refine blk_drew ?_ | refine blk_alloc ?_ _)); refine blk_put (cs := #[.int .i64 (wrap64 ((wrap64 (2 * t241)) + t242)), .int .i64 t244, .int .i64 x241002_6, .int .i64 (wrap64 ((wrap64 (t247 + t248)) + t249)), .int .i64 t251, .int .i64 (wrap64 ((wrap64 ((wrap64 (2 * t251)) + a0_1)) + t244)), .int .i64 t252, .int .i64 (wrap64 ((wrap64 (t252 + t253)) + 3)), .int .i64 t254, .int .i64 (wrap64 ((wrap64 (t255 + 8)) + (wrap64 (4 * a0_3)))), .int .i64 0]) ?_ 10 _ rfl; (with_reducible repeat (first | refine blk_drewN ?_ _ | refine blk_drew ?_ | refine blk_alloc ?_ _)); refine blk_put (cs := #[.int .i64 (wrap64 ((wrap64 (2 * t241)) + t242)), .int .i64 t244, .int .i64 x241002_6, .int .i64 (wrap64 ((wrap64 (t247 + t248)) + t249)), .int .i64 t251, .int .i64 (wrap64 ((wrap64 ((wrap64 (2 * t251)) + a0_1)) + t244)), .int .i64 t252, .int .i64 (wrap64 ((wrap64 (t252 + t253)) + 3)), .int .i64 t254, .int .i64 0, .int .i64 0]) ?_ 9 _ rfl; (with_reducible repeat (first | refine blk_drewN ?_ _ | refine blk_drew ?_ | refine blk_alloc ?_ _)); refine blk_put (cs := #[.int .i64 (wrap64 ((wrap64 (2 * t241)) + t242)), .int .i64 t244, .int .i64 x241002_6, .int .i64 (wrap64 ((wrap64 (t247 + t248)) + t249)), .int .i64 t251, .int .i64 (wrap64 ((wrap64 ((wrap64 (2 * t251)) + a0_1)) + t244)), .int .i64 t252, .int .i64 (wrap64 ((wrap64 (t252 + t253)) + 3)), .int .i64 0, .int .i64 0, .int .i64 0]) ?_ 8 _ rfl; (with_reducible repeat (first | refine blk_drewN ?_ _ | refine blk_drew ?_ | refine blk_alloc ?_ _)); refine blk_put (cs := #[.int .i64 (wrap64 ((wrap64 (2 * t241)) + t242)), .int .i64 t244, .int .i64 x241002_6, .int .i64 (wrap64 ((wrap64 (t247 + t248)) + t249)), .int .i64 t251, .int .i64 (wrap64 ((wrap64 ((wrap64 (2 * t251)) + a0_1)) + t244)), .int .i64 t252, .int .i64 0, .int .i64 0, .int .i64 0, .int .i64 0]) ?_ 7 _ rfl; (with_reducible repeat (first | refine blk_drewN ?_ _ | refine blk_drew ?_ | refine blk_alloc ?_ _)); refine blk_put (cs := #[.int .i64 (wrap64 ((wrap64 (2 * t241)) + t242)), .int .i64 t244, .int .i64 x241002_6, .int .i64 (wrap64 ((wrap64 (t247 + t248)) + t249)), .int .i64 t251, .int .i64 (wrap64 ((wrap64 ((wrap64 (2 * t251)) + a0_1)) + t244)), .int .i64 0, .int .i64 0, .int .i64 0, .int .i64 0, .int .i64 0]) ?_ 6 _ rfl; (with_reducible repeat (first | refine blk_drewN ?_ _ | refine blk_drew ?_ | refine blk_alloc ?_ _)); refine blk_put (cs := #[.int .i64 (wrap64 ((wrap64 (2 * t241)) + t242)), .int .i64 t244, .int .i64 x241002_6, .int .i64 (wrap64 ((wrap64 (t247 + t248)) + t249)), .int .i64 t251, .int .i64 0, .int .i64 0, .int .i64 0, .int .i64 0, .int .i64 0, .int .i64 0]) ?_ 5 _ rfl; (with_reducible repeat (first | refine blk_drewN ?_ _ | refine blk_drew ?_ | refine blk_alloc ?_ _)); refine blk_put (cs := #[.int .i64 (wrap64 ((wrap64 (2 * t241)) + t242)), .int .i64 t244, .int .i64 x241002_6, .int .i64 (wrap64 ((wrap64 (t247 + t248)) + t249)), .int .i64 0, .int .i64 0, .int .i64 0, .int .i64 0, .int .i64 0, .int .i64 0, .int .i64 0]) ?_ 4 _ rfl; (with_reducible repeat (first | refine blk_drewN ?_ _ | refine blk_drew ?_ | refine blk_alloc ?_ _)); refine blk_put (cs := #[.int .i64 (wrap64 ((wrap64 (2 * t241)) + t242)), .int .i64 t244, .int .i64 x241002_6, .int .i64 0, .int .i64 0, .int .i64 0, .int .i64 0, .int .i64 0, .int .i64 0, .int .i64 0, .int .i64 0]) ?_ 3 _ rfl; (with_reducible repeat (first | refine blk_drewN ?_ _ | refine blk_drew ?_ | refine blk_alloc ?_ _)); refine blk_put (cs := #[.int .i64 (wrap64 ((wrap64 (2 * t241)) + t242)), .int .i64 t244, .int .i64 0, .int .i64 0, .int .i64 0, .int .i64 0, .int .i64 0, .int .i64 0, .int .i64 0, .int .i64 0, .int .i64 0]) ?_ 2 _ rfl; (with_reducible repeat (first | refine blk_drewN ?_ _ | refine blk_drew ?_ | refine blk_alloc ?_ _)); refine blk_put (cs := #[.int .i64 (wrap64 ((wrap64 (2 * t241)) + t242)), .int .i64 0, .int .i64 0, .int .i64 0, .int .i64 0, .int .i64 0, .int .i64 0, .int .i64 0, .int .i64 0, .int .i64 0, .int .i64 0]) ?_ 1 _ rfl; (with_reducible repeat (first | refine blk_drewN ?_ _ | refine blk_drew ?_ | refine blk_alloc ?_ _)); refine blk_put (cs := #[.int .i64 0, .int .i64 0, .int .i64 0, .int .i64 0, .int .i64 0, .int .i64 0, .int .i64 0, .int .i64 0, .int .i64 0, .int .i64 0, .int .i64 0]) ?_ 0 _ rfl; (with_reducible repeat (first | refine blk_drewN ?_ _ | refine blk_drew ?_ | refine blk_alloc ?_ _)); refine blk_far ?_ NB239_240.out _; (with_reducible repeat (first | refine blk_drewN ?_ _ | refine blk_drew ?_ | refine blk_alloc ?_ _)); refine blk_far ?_ NB239_240.out _; (with_reducible repeat (first | refine blk_drewN ?_ _ | refine blk_drew ?_ | refine blk_alloc ?_ _)); exact BK239.out) Try.underlying35 rfl (by kernel_rfl)) rfl ?_
    exact ⟨by first | rfl | (simp [errW_none, errW_some] <;> rfl) | (simp [*, errW_none, errW_some] <;> rfl), by repeat (first | (with_reducible first | exact HB.out | apply below_alloc | apply pw_below_drewN | apply below_drew1 | refine below_set ?_ GE238.out | refine below_set ?_ GE239.out | refine below_set ?_ GE240.out) | exact HB.out)⟩

end Go.Proofs.Ytbeaekknpejnlaa.PSizeTells
