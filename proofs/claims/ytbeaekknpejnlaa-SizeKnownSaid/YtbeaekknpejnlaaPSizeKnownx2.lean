-- By a program of this session (NOTES.md). Lean checks it.
import Derived.Test.YtbeaekknpejnlaaPSizeKnownx0
import Derived.Test.YtbeaekknpejnlaaPSizeKnownx1
namespace Go.Proofs.Ytbeaekknpejnlaa.PSizeKnown
open Go.RowKit Go.Proofs.YtbeaekknpejnlaaW.PrintWords Go.Proofs.YtbeaekknpejnlaaW.PrintLast Go.Proofs.YtbeaekknpejnlaaW.PrintMore
attribute [local go_sem] max2_int min2_int max_two min_two max_three min_three max_four min_four   -- for this text's walks alone
set_option linter.unusedVariables false
set_option linter.unusedSimpArgs false

attribute [local go_sem] sc_drewN
/-! ### size_Of: function 9 -/
def size_Of.j0 : Nat → Bool → Int → Int → Int → Int → Int → Int → Bool → Option (Int × Int × Int × Int × Int × Int × Int × Int × Int × Int × Int × Int)
  | 0, _, _, _, _, _, _, _, _ => none
  | k + 1, x44, x104000, x104001, x104002, x104003, x104004, x104005, x104006 => if x44 = true then (some (0, 0, 0, 0, 0, 0, 0, 0, 0, 0, 0, 1)) else ((size_length.f k x104002).bind fun t112 => ((size_length.f k (wrap64 ((wrap64 (2 * (wrap64 (x104000 * x104001)))) + 1))).bind fun t113 => ((size_length.f k x104004).bind fun t114 => ((leaf_Pages.f (wrap64 (t114 + (wrap64 (x104004 * (wrap64 ((wrap64 (2 * t112)) + t113))))))).bind fun t115 => ((size_up.f x104002 x104001).bind fun t116 => ((size_length.f k (wrap64 ((wrap64 (2 * x104002)) + 1))).bind fun t117 => ((size_length.f k x104002).bind fun t118 => ((size_length.f k (wrap64 ((wrap64 (2 * (wrap64 (x104000 * x104001)))) + 3))).bind fun t119 => ((size_length.f k (wrap64 ((wrap64 (4 + x104003)) + (mx t116 x104001)))).bind fun t120 => ((leaf_Pages.f (wrap64 (t120 + (wrap64 ((wrap64 ((wrap64 (4 + x104003)) + (mx t116 x104001))) * (wrap64 ((wrap64 (t117 + t118)) + t119))))))).bind fun t121 => ((size_up.f (wrap64 (t115 + (wrap64 ((wrap64 ((wrap64 (2 * t121)) + x104001)) + t115)))) x104001).bind fun t122 => ((size_up.f t115 x104001).bind fun t123 => ((size_up.f x104002 x104005).bind fun t124 => ((size_up.f x104002 x104001).bind fun t125 => (some (wrap64 ((wrap64 (2 * t112)) + t113), t115, wrap64 ((wrap64 (4 + x104003)) + (mx t116 x104001)), wrap64 ((wrap64 (t117 + t118)) + t119), t121, wrap64 ((wrap64 ((wrap64 (2 * t121)) + x104001)) + t115), t122, wrap64 ((wrap64 (t122 + t123)) + 3), t124, wrap64 ((wrap64 (t125 + 8)) + (wrap64 (4 * x104003))), wrap64 (x104000 + (wrap64 ((wrap64 (2 * x104001)) * (wrap64 ((wrap64 (t122 + 2)) + x104003))))), 0))))))))))))))))
def size_Of.f (k : Nat) (a0_0 : Int) (a0_1 : Int) (a0_2 : Int) (a0_3 : Int) (a0_4 : Int) (a0_5 : Int) (a0_6 : Bool) : Option (Int × Int × Int × Int × Int × Int × Int × Int × Int × Int × Int × Int) := (size_within.f a0_0 8 64).bind fun t105 => (if t105 = true then ((size_within.f a0_1 4 32).bind fun t106 => (if t106 = true then ((size_within.f a0_3 0 4).bind fun t107 => (if t107 = true then ((size_within.f a0_2 1 512).bind fun t108 => (if t108 = true then ((size_within.f a0_5 1 (mn a0_1 a0_2)).bind fun t109 => (if t109 = true then ((size_within.f a0_4 1 512).bind fun t110 => (size_Of.j0 k (!t110) a0_0 a0_1 a0_2 a0_3 a0_4 a0_5 a0_6)) else (size_Of.j0 k true a0_0 a0_1 a0_2 a0_3 a0_4 a0_5 a0_6))) else (size_Of.j0 k true a0_0 a0_1 a0_2 a0_3 a0_4 a0_5 a0_6))) else (size_Of.j0 k true a0_0 a0_1 a0_2 a0_3 a0_4 a0_5 a0_6))) else (size_Of.j0 k true a0_0 a0_1 a0_2 a0_3 a0_4 a0_5 a0_6))) else (size_Of.j0 k true a0_0 a0_1 a0_2 a0_3 a0_4 a0_5 a0_6))
theorem size_Of.mono_l : ∀ k, (∀ y0 y1 y2 y3 y4 y5 y6 y7, LeO (size_Of.j0 k y0 y1 y2 y3 y4 y5 y6 y7) (size_Of.j0 (k + 1) y0 y1 y2 y3 y4 y5 y6 y7))
  | 0 => fun _ _ _ _ _ _ _ _ r h => by simp [size_Of.j0] at h
  | k + 1 => by
    have ih0 := size_Of.mono_l k
    · intro y0 y1 y2 y3 y4 y5 y6 y7
      unfold size_Of.j0
      repeat' first
      | (with_reducible exact ih0 _ _ _ _ _ _ _ _)
      | (with_reducible exact size_length.mono _ _)
      | (with_reducible exact LeO.refl _)
      | (with_reducible exact LeO.none _)
      | (with_reducible refine LeO.ite ?_ ?_)
      | (with_reducible refine LeO.bind ?_ (fun _ => ?_))
      | exact ih0 _ _ _ _ _ _ _ _
      | exact size_length.mono _ _
      | exact LeO.none _
      | refine LeO.ite ?_ ?_
      | refine LeO.bind ?_ (fun _ => ?_)
theorem size_Of.mono : ∀ a0 a1 a2 a3 a4 a5 a6 k, LeO (size_Of.f k a0 a1 a2 a3 a4 a5 a6) (size_Of.f (k + 1) a0 a1 a2 a3 a4 a5 a6) := by
  intro a0 a1 a2 a3 a4 a5 a6 k
  have ih0 := size_Of.mono_l k
  unfold size_Of.f
  repeat' first
      | (with_reducible exact ih0 _ _ _ _ _ _ _ _)
      | (with_reducible exact size_length.mono _ _)
      | (with_reducible exact LeO.refl _)
      | (with_reducible exact LeO.none _)
      | (with_reducible refine LeO.ite ?_ ?_)
      | (with_reducible refine LeO.bind ?_ (fun _ => ?_))
      | exact ih0 _ _ _ _ _ _ _ _
      | exact size_length.mono _ _
      | exact LeO.none _
      | refine LeO.ite ?_ ?_
      | refine LeO.bind ?_ (fun _ => ?_)
def size_Of.T6 : Bool × List (List Nat × List Nat) := (true, [([], []), ([0], [0]), ([1], [1]), ([], []), ([3], [3]), ([], []), ([5], [5]), ([4, 6], [4, 6]), ([2, 7], [2, 7]), ([8, 2], [8]), ([0, 1, 2, 3, 4, 5, 6, 7, 8, 9], []), ([10, 9, 9, 0, 1, 2, 3, 4, 5, 6, 7, 8, 9], [9, 10])])
def size_Of.B6 : List Nat := [0, 1, 3, 0, 8, 0, 32, 120, 255, 511, 1023, 2047]
theorem size_Of.tab6 : rtab .any (opsOf Try.f9 6) = size_Of.T6 := by kernel_rfl
theorem size_Of.bits6 : waitsOk size_Of.T6.2 size_Of.B6 = true := by kernel_rfl
def size_Of.T7 : Bool × List (List Nat × List Nat) := (true, [([], []), ([0], [0]), ([1], [1]), ([], []), ([3], [3]), ([], []), ([5], [5]), ([4, 6], [4, 6]), ([], []), ([8], [8]), ([7, 9], [7, 9]), ([2, 10], [2, 10]), ([0, 1, 2, 3, 4, 5, 6, 7, 8, 9, 10, 11], []), ([12, 11, 7, 0, 1, 2, 3, 4, 5, 6, 7, 8, 9, 10, 11], [11, 12])])
def size_Of.B7 : List Nat := [0, 1, 3, 0, 8, 0, 32, 120, 0, 256, 1016, 2047, 4095, 8191]
theorem size_Of.tab7 : rtab .any (opsOf Try.f9 7) = size_Of.T7 := by kernel_rfl
theorem size_Of.bits7 : waitsOk size_Of.T7.2 size_Of.B7 = true := by kernel_rfl
def size_Of.T8 : Bool × List (List Nat × List Nat) := (true, [([], []), ([0], [0]), ([1], [1]), ([2], [2]), ([3], [3]), ([], []), ([5], [5]), ([6, 4], [6]), ([4, 7], [4, 7]), ([], []), ([9], [9]), ([10], [10]), ([11, 7], [11]), ([8, 12], [8, 12]), ([0, 1, 2, 3, 4, 5, 6, 7, 8, 9, 10, 11, 12, 13], []), ([14, 13, 12, 0, 1, 2, 3, 4, 5, 6, 7, 8, 9, 10, 11, 12, 13], [13, 14])])
def size_Of.B8 : List Nat := [0, 1, 3, 7, 15, 0, 32, 127, 255, 0, 512, 1536, 3839, 8191, 16383, 32767]
theorem size_Of.tab8 : rtab .any (opsOf Try.f9 8) = size_Of.T8 := by kernel_rfl
theorem size_Of.bits8 : waitsOk size_Of.T8.2 size_Of.B8 = true := by kernel_rfl
def size_Of.T9 : Bool × List (List Nat × List Nat) := (true, [([], []), ([0], [0]), ([1], [1]), ([], []), ([3], [3]), ([], []), ([5], [5]), ([4, 6], [4, 6]), ([2, 7], [2, 7]), ([8, 2], [8]), ([0, 1, 2, 3, 4, 5, 6, 7, 8, 9], []), ([10, 9, 9, 0, 1, 2, 3, 4, 5, 6, 7, 8, 9], [9, 10])])
def size_Of.B9 : List Nat := [0, 1, 3, 0, 8, 0, 32, 120, 255, 511, 1023, 2047]
theorem size_Of.tab9 : rtab .any (opsOf Try.f9 9) = size_Of.T9 := by kernel_rfl
theorem size_Of.bits9 : waitsOk size_Of.T9.2 size_Of.B9 = true := by kernel_rfl
def size_Of.T12 : Bool × List (List Nat × List Nat) := (true, [([], []), ([0], [0]), ([], []), ([2], [2]), ([], []), ([4], [4]), ([3, 5], [3, 5]), ([1, 6], [1, 6]), ([7], [7]), ([0, 1, 2, 3, 4, 5, 6, 7, 8], []), ([9, 8, 6, 0, 1, 2, 3, 4, 5, 6, 7, 8], [8, 9])])
def size_Of.B12 : List Nat := [0, 1, 0, 4, 0, 16, 60, 127, 255, 511, 1023]
theorem size_Of.tab12 : rtab .any (opsOf Try.f9 12) = size_Of.T12 := by kernel_rfl
theorem size_Of.bits12 : waitsOk size_Of.T12.2 size_Of.B12 = true := by kernel_rfl
def size_Of.T14 : Bool × List (List Nat × List Nat) := (true, [([], []), ([0], [0]), ([], []), ([2], [2]), ([1, 3], [1, 3]), ([4], [4]), ([], []), ([6], [6]), ([7], [7]), ([5, 8], [5, 8]), ([0, 1, 2, 3, 4, 5, 6, 7, 8, 9], []), ([10, 9, 4, 0, 1, 2, 3, 4, 5, 6, 7, 8, 9], [9, 10])])
def size_Of.B14 : List Nat := [0, 1, 0, 4, 15, 31, 0, 64, 192, 511, 1023, 2047]
theorem size_Of.tab14 : rtab .any (opsOf Try.f9 14) = size_Of.T14 := by kernel_rfl
theorem size_Of.bits14 : waitsOk size_Of.T14.2 size_Of.B14 = true := by kernel_rfl
set_option maxHeartbeats 8000000 in
set_option maxRecDepth 100000 in
theorem size_Of.calls (k : Nat) (a0_0 : Int) (a0_1 : Int) (a0_2 : Int) (a0_3 : Int) (a0_4 : Int) (a0_5 : Int) (a0_6 : Bool) (r1 : Int) (r2 : Int) (r3 : Int) (r4 : Int) (r5 : Int) (r6 : Int) (r7 : Int) (r8 : Int) (r9 : Int) (r10 : Int) (r11 : Int) (r12 : Int) (w : World) (h : size_Of.f k a0_0 a0_1 a0_2 a0_3 a0_4 a0_5 a0_6 = some (r1, r2, r3, r4, r5, r6, r7, r8, r9, r10, r11, r12)) :
    Calls Try.prog 9 #[.agg #[.int .i64 a0_0, .int .i64 a0_1, .int .i64 a0_2, .int .i64 a0_3, .int .i64 a0_4, .int .i64 a0_5, .bool a0_6]] w fun e w' => e = .returned (.tuple #[.agg #[.int .i64 r1, .int .i64 r2, .int .i64 r3, .int .i64 r4, .int .i64 r5, .int .i64 r6, .int .i64 r7, .int .i64 r8, .int .i64 r9, .int .i64 r10, .int .i64 r11], .int .i64 r12]) ∧ Below w.heap.size w w' := by
  have hu29 := Try.underlying29
  have hu24 := Try.underlying24
  have HB := Aside0.mk (Below.refl w.heap.size w)
  have H : ((size_within.f a0_0 8 64).bind fun t105 => (if t105 = true then ((size_within.f a0_1 4 32).bind fun t106 => (if t106 = true then ((size_within.f a0_3 0 4).bind fun t107 => (if t107 = true then ((size_within.f a0_2 1 512).bind fun t108 => (if t108 = true then ((size_within.f a0_5 1 (mn a0_1 a0_2)).bind fun t109 => (if t109 = true then ((size_within.f a0_4 1 512).bind fun t110 => (size_Of.j0 k (!t110) a0_0 a0_1 a0_2 a0_3 a0_4 a0_5 a0_6)) else (size_Of.j0 k true a0_0 a0_1 a0_2 a0_3 a0_4 a0_5 a0_6))) else (size_Of.j0 k true a0_0 a0_1 a0_2 a0_3 a0_4 a0_5 a0_6))) else (size_Of.j0 k true a0_0 a0_1 a0_2 a0_3 a0_4 a0_5 a0_6))) else (size_Of.j0 k true a0_0 a0_1 a0_2 a0_3 a0_4 a0_5 a0_6))) else (size_Of.j0 k true a0_0 a0_1 a0_2 a0_3 a0_4 a0_5 a0_6))) = some (r1, r2, r3, r4, r5, r6, r7, r8, r9, r10, r11, r12) := h
  clear h
  have HC2 := Aside0.mk H
  clear H
  go_enter Try.func9, Try.ntmps9
  go_upto_region 1 with (first | ((with_reducible refine gate_dst (N := 1) rfl ?_); (try (refine gate_guard (by rfl) ?_; dsimp only)); refine box_event ?hg (N := 1) ?hd (cs := #[.int .i64 a0_0, .int .i64 a0_1, .int .i64 a0_2, .int .i64 a0_3, .int .i64 a0_4, .int .i64 a0_5, .bool a0_6]) (t := 29) ?hr ?_; (case hd => rfl); (case hg => rfl); (case hr => first | (go_simp; done) | (go_simp; rfl)); intro gb103 hg w3 hbox hb; have n0_ := Aside0.mk (below_step (by repeat (first | (with_reducible first | exact HB.out | apply below_alloc | apply pw_below_drewN | apply below_drew1) | exact HB.out)) hb); have n1_ := Aside0.mk (hbox); have n2_ := Aside0.mk ((by rw [hg]; exact (below_size (by repeat (first | (with_reducible first | exact HB.out | apply below_alloc | apply pw_below_drewN | apply below_drew1) | exact HB.out))) : w.heap.size ≤ gb103)); have n3_ := Aside0.mk ((by rw [hg]; exact (below_size (by repeat (first | (with_reducible first | exact HB.out | apply below_alloc | apply pw_below_drewN | apply below_drew1) | exact HB.out))) : w.heap.size ≤ gb103)); clear HB; have HB := n0_; have BK103 := n1_; have GW103 := n2_; have GE103 := n3_; clear n0_ n1_ n2_ n3_; clear hb hbox hg) | ((with_reducible refine gate_dst (N := 2) rfl ?_); (try (refine gate_guard (by rfl) ?_; dsimp only)); refine box_event ?hg (N := 2) ?hd (cs := #[.int .i64 0, .int .i64 0, .int .i64 0, .int .i64 0, .int .i64 0, .int .i64 0, .int .i64 0, .int .i64 0, .int .i64 0, .int .i64 0, .int .i64 0]) (t := 24) ?hr ?_; (case hd => rfl); (case hg => rfl); (case hr => first | (go_simp; done) | (go_simp; rfl)); intro gb104 hg w4 hbox hb; have n0_ := Aside0.mk (blk_below (g := gb103) (o := .cells #[.int .i64 a0_0, .int .i64 a0_1, .int .i64 a0_2, .int .i64 a0_3, .int .i64 a0_4, .int .i64 a0_5, .bool a0_6] 29 (0, 0)) (by (with_reducible repeat (first | refine blk_drewN ?_ _ | refine blk_drew ?_ | refine blk_alloc ?_ _)); exact BK103.out) hb); have n1_ := Aside0.mk (below_step (by repeat (first | (with_reducible first | exact HB.out | apply below_alloc | apply pw_below_drewN | apply below_drew1 | refine below_set ?_ GE103.out) | exact HB.out)) hb); have n2_ := Aside0.mk (hbox); have n3_ := Aside0.mk ((by rw [hg]; exact (below_size (by repeat (first | (with_reducible first | exact HB.out | apply below_alloc | apply pw_below_drewN | apply below_drew1 | refine below_set ?_ GE103.out) | exact HB.out))) : w.heap.size ≤ gb104)); have n4_ := Aside0.mk ((by rw [hg]; exact (below_size (by repeat (first | (with_reducible first | exact HB.out | apply below_alloc | apply pw_below_drewN | apply below_drew1 | refine below_set ?_ GE103.out) | exact HB.out))) : w.heap.size ≤ gb104)); have n5_ := Aside0.mk ((by rw [hg]; exact Nat.ne_of_lt (blk_lt (g := gb103) (o := .cells #[.int .i64 a0_0, .int .i64 a0_1, .int .i64 a0_2, .int .i64 a0_3, .int .i64 a0_4, .int .i64 a0_5, .bool a0_6] 29 (0, 0)) (by (with_reducible repeat (first | refine blk_drewN ?_ _ | refine blk_drew ?_ | refine blk_alloc ?_ _)); exact BK103.out)) : gb103 ≠ gb104)); have n6_ := Aside0.mk ((by rw [hg]; exact Nat.ne_of_gt (blk_lt (g := gb103) (o := .cells #[.int .i64 a0_0, .int .i64 a0_1, .int .i64 a0_2, .int .i64 a0_3, .int .i64 a0_4, .int .i64 a0_5, .bool a0_6] 29 (0, 0)) (by (with_reducible repeat (first | refine blk_drewN ?_ _ | refine blk_drew ?_ | refine blk_alloc ?_ _)); exact BK103.out)) : gb104 ≠ gb103)); clear BK103; clear HB; have BK103 := n0_; have HB := n1_; have BK104 := n2_; have GW104 := n3_; have GE104 := n4_; have NB103_104 := n5_; have NB104_103 := n6_; clear n0_ n1_ n2_ n3_ n4_ n5_ n6_; clear hb hbox hg))
  (try simp only [Act.put, List.setIfInBounds_toArray, List.set_cons_zero, List.set_cons_succ])
  go_cut [44] (fun v44 wc => ∃ (kq : Nat) (x44_1 : Bool), v44 = .bool x44_1 ∧ Aside0 (size_Of.j0 kq x44_1 a0_0 a0_1 a0_2 a0_3 a0_4 a0_5 a0_6 = some (r1, r2, r3, r4, r5, r6, r7, r8, r9, r10, r11, r12)) ∧ Aside0 (kq ≤ k) ∧ Aside0 (wc.heap[gb103]? = some (.cells #[.int .i64 a0_0, .int .i64 a0_1, .int .i64 a0_2, .int .i64 a0_3, .int .i64 a0_4, .int .i64 a0_5, .bool a0_6] 29 (0, 0))) ∧ Aside0 (wc.heap[gb104]? = some (.cells #[.int .i64 0, .int .i64 0, .int .i64 0, .int .i64 0, .int .i64 0, .int .i64 0, .int .i64 0, .int .i64 0, .int .i64 0, .int .i64 0, .int .i64 0] 24 (0, 0))) ∧ Aside0 (Below w.heap.size w wc))
  case first =>
    have H := HC2.out
    clear HC2
    replace H := Option.bind_eq_some_iff.mp H
    obtain ⟨t105, A50, H⟩ := H
    replace H : (if t105 = true then ((size_within.f a0_1 4 32).bind fun t106 => (if t106 = true then ((size_within.f a0_3 0 4).bind fun t107 => (if t107 = true then ((size_within.f a0_2 1 512).bind fun t108 => (if t108 = true then ((size_within.f a0_5 1 (mn a0_1 a0_2)).bind fun t109 => (if t109 = true then ((size_within.f a0_4 1 512).bind fun t110 => (size_Of.j0 k (!t110) a0_0 a0_1 a0_2 a0_3 a0_4 a0_5 a0_6)) else (size_Of.j0 k true a0_0 a0_1 a0_2 a0_3 a0_4 a0_5 a0_6))) else (size_Of.j0 k true a0_0 a0_1 a0_2 a0_3 a0_4 a0_5 a0_6))) else (size_Of.j0 k true a0_0 a0_1 a0_2 a0_3 a0_4 a0_5 a0_6))) else (size_Of.j0 k true a0_0 a0_1 a0_2 a0_3 a0_4 a0_5 a0_6))) else (size_Of.j0 k true a0_0 a0_1 a0_2 a0_3 a0_4 a0_5 a0_6)) = some (r1, r2, r3, r4, r5, r6, r7, r8, r9, r10, r11, r12) := H
    have A5 := Aside0.mk A50
    clear A50
    by_cases c6 : t105 = true
    · subst c6
      have H1 : ((size_within.f a0_1 4 32).bind fun t106 => (if t106 = true then ((size_within.f a0_3 0 4).bind fun t107 => (if t107 = true then ((size_within.f a0_2 1 512).bind fun t108 => (if t108 = true then ((size_within.f a0_5 1 (mn a0_1 a0_2)).bind fun t109 => (if t109 = true then ((size_within.f a0_4 1 512).bind fun t110 => (size_Of.j0 k (!t110) a0_0 a0_1 a0_2 a0_3 a0_4 a0_5 a0_6)) else (size_Of.j0 k true a0_0 a0_1 a0_2 a0_3 a0_4 a0_5 a0_6))) else (size_Of.j0 k true a0_0 a0_1 a0_2 a0_3 a0_4 a0_5 a0_6))) else (size_Of.j0 k true a0_0 a0_1 a0_2 a0_3 a0_4 a0_5 a0_6))) else (size_Of.j0 k true a0_0 a0_1 a0_2 a0_3 a0_4 a0_5 a0_6))) = some (r1, r2, r3, r4, r5, r6, r7, r8, r9, r10, r11, r12) := by rw [if_pos rfl] at H; exact H
      clear H
      have H := H1
      clear H1
      replace H := Option.bind_eq_some_iff.mp H
      obtain ⟨t106, A70, H⟩ := H
      replace H : (if t106 = true then ((size_within.f a0_3 0 4).bind fun t107 => (if t107 = true then ((size_within.f a0_2 1 512).bind fun t108 => (if t108 = true then ((size_within.f a0_5 1 (mn a0_1 a0_2)).bind fun t109 => (if t109 = true then ((size_within.f a0_4 1 512).bind fun t110 => (size_Of.j0 k (!t110) a0_0 a0_1 a0_2 a0_3 a0_4 a0_5 a0_6)) else (size_Of.j0 k true a0_0 a0_1 a0_2 a0_3 a0_4 a0_5 a0_6))) else (size_Of.j0 k true a0_0 a0_1 a0_2 a0_3 a0_4 a0_5 a0_6))) else (size_Of.j0 k true a0_0 a0_1 a0_2 a0_3 a0_4 a0_5 a0_6))) else (size_Of.j0 k true a0_0 a0_1 a0_2 a0_3 a0_4 a0_5 a0_6)) = some (r1, r2, r3, r4, r5, r6, r7, r8, r9, r10, r11, r12) := H
      have A7 := Aside0.mk A70
      clear A70
      by_cases c8 : t106 = true
      · subst c8
        have H1 : ((size_within.f a0_3 0 4).bind fun t107 => (if t107 = true then ((size_within.f a0_2 1 512).bind fun t108 => (if t108 = true then ((size_within.f a0_5 1 (mn a0_1 a0_2)).bind fun t109 => (if t109 = true then ((size_within.f a0_4 1 512).bind fun t110 => (size_Of.j0 k (!t110) a0_0 a0_1 a0_2 a0_3 a0_4 a0_5 a0_6)) else (size_Of.j0 k true a0_0 a0_1 a0_2 a0_3 a0_4 a0_5 a0_6))) else (size_Of.j0 k true a0_0 a0_1 a0_2 a0_3 a0_4 a0_5 a0_6))) else (size_Of.j0 k true a0_0 a0_1 a0_2 a0_3 a0_4 a0_5 a0_6))) = some (r1, r2, r3, r4, r5, r6, r7, r8, r9, r10, r11, r12) := by rw [if_pos rfl] at H; exact H
        clear H
        have H := H1
        clear H1
        replace H := Option.bind_eq_some_iff.mp H
        obtain ⟨t107, A90, H⟩ := H
        replace H : (if t107 = true then ((size_within.f a0_2 1 512).bind fun t108 => (if t108 = true then ((size_within.f a0_5 1 (mn a0_1 a0_2)).bind fun t109 => (if t109 = true then ((size_within.f a0_4 1 512).bind fun t110 => (size_Of.j0 k (!t110) a0_0 a0_1 a0_2 a0_3 a0_4 a0_5 a0_6)) else (size_Of.j0 k true a0_0 a0_1 a0_2 a0_3 a0_4 a0_5 a0_6))) else (size_Of.j0 k true a0_0 a0_1 a0_2 a0_3 a0_4 a0_5 a0_6))) else (size_Of.j0 k true a0_0 a0_1 a0_2 a0_3 a0_4 a0_5 a0_6)) = some (r1, r2, r3, r4, r5, r6, r7, r8, r9, r10, r11, r12) := H
        have A9 := Aside0.mk A90
        clear A90
        by_cases c10 : t107 = true
        · subst c10
          have H1 : ((size_within.f a0_2 1 512).bind fun t108 => (if t108 = true then ((size_within.f a0_5 1 (mn a0_1 a0_2)).bind fun t109 => (if t109 = true then ((size_within.f a0_4 1 512).bind fun t110 => (size_Of.j0 k (!t110) a0_0 a0_1 a0_2 a0_3 a0_4 a0_5 a0_6)) else (size_Of.j0 k true a0_0 a0_1 a0_2 a0_3 a0_4 a0_5 a0_6))) else (size_Of.j0 k true a0_0 a0_1 a0_2 a0_3 a0_4 a0_5 a0_6))) = some (r1, r2, r3, r4, r5, r6, r7, r8, r9, r10, r11, r12) := by rw [if_pos rfl] at H; exact H
          clear H
          have H := H1
          clear H1
          replace H := Option.bind_eq_some_iff.mp H
          obtain ⟨t108, A110, H⟩ := H
          replace H : (if t108 = true then ((size_within.f a0_5 1 (mn a0_1 a0_2)).bind fun t109 => (if t109 = true then ((size_within.f a0_4 1 512).bind fun t110 => (size_Of.j0 k (!t110) a0_0 a0_1 a0_2 a0_3 a0_4 a0_5 a0_6)) else (size_Of.j0 k true a0_0 a0_1 a0_2 a0_3 a0_4 a0_5 a0_6))) else (size_Of.j0 k true a0_0 a0_1 a0_2 a0_3 a0_4 a0_5 a0_6)) = some (r1, r2, r3, r4, r5, r6, r7, r8, r9, r10, r11, r12) := H
          have A11 := Aside0.mk A110
          clear A110
          by_cases c12 : t108 = true
          · subst c12
            have H1 : ((size_within.f a0_5 1 (mn a0_1 a0_2)).bind fun t109 => (if t109 = true then ((size_within.f a0_4 1 512).bind fun t110 => (size_Of.j0 k (!t110) a0_0 a0_1 a0_2 a0_3 a0_4 a0_5 a0_6)) else (size_Of.j0 k true a0_0 a0_1 a0_2 a0_3 a0_4 a0_5 a0_6))) = some (r1, r2, r3, r4, r5, r6, r7, r8, r9, r10, r11, r12) := by rw [if_pos rfl] at H; exact H
            clear H
            have H := H1
            clear H1
            obtain ⟨ji13, hji13⟩ : ∃ j_ : Int, (mn a0_1 a0_2) = j_ := ⟨_, rfl⟩
            replace H : ((size_within.f a0_5 1 (ji13)).bind fun t109 => (if t109 = true then ((size_within.f a0_4 1 512).bind fun t110 => (size_Of.j0 k (!t110) a0_0 a0_1 a0_2 a0_3 a0_4 a0_5 a0_6)) else (size_Of.j0 k true a0_0 a0_1 a0_2 a0_3 a0_4 a0_5 a0_6))) = some (r1, r2, r3, r4, r5, r6, r7, r8, r9, r10, r11, r12) := by first | (rw [hji13] at H; exact H) | (simp only [hji13] at H ⊢; exact H)
            (try rw [hji13] at A5)
            (try rw [hji13] at A7)
            (try rw [hji13] at A9)
            (try rw [hji13] at A11)
            have hji13_ : (if a0_2 < a0_1 then a0_2 else a0_1) = ji13 := hji13
            replace H := Option.bind_eq_some_iff.mp H
            obtain ⟨t109, A140, H⟩ := H
            replace H : (if t109 = true then ((size_within.f a0_4 1 512).bind fun t110 => (size_Of.j0 k (!t110) a0_0 a0_1 a0_2 a0_3 a0_4 a0_5 a0_6)) else (size_Of.j0 k true a0_0 a0_1 a0_2 a0_3 a0_4 a0_5 a0_6)) = some (r1, r2, r3, r4, r5, r6, r7, r8, r9, r10, r11, r12) := H
            have A14 := Aside0.mk A140
            clear A140
            by_cases c15 : t109 = true
            · subst c15
              have H1 : ((size_within.f a0_4 1 512).bind fun t110 => (size_Of.j0 k (!t110) a0_0 a0_1 a0_2 a0_3 a0_4 a0_5 a0_6)) = some (r1, r2, r3, r4, r5, r6, r7, r8, r9, r10, r11, r12) := by rw [if_pos rfl] at H; exact H
              clear H
              have H := H1
              clear H1
              replace H := Option.bind_eq_some_iff.mp H
              obtain ⟨t110, A160, H⟩ := H
              replace H : (size_Of.j0 k (!t110) a0_0 a0_1 a0_2 a0_3 a0_4 a0_5 a0_6) = some (r1, r2, r3, r4, r5, r6, r7, r8, r9, r10, r11, r12) := H
              have A16 := Aside0.mk A160
              clear A160
              have H' := Aside0.mk H
              clear H
              have hnb17 := NB103_104.out
              have hnc17 := NB104_103.out
              have hcz18_0 : w4.cell? ⟨gb103, 0, none⟩ = some (.int .i64 a0_0) := (blk_cell BK103.out 0).trans rfl
              have hcz18_1 : w4.cell? ⟨gb103, 1, none⟩ = some (.int .i64 a0_1) := (blk_cell BK103.out 1).trans rfl
              have hcz18_2 : w4.cell? ⟨gb103, 2, none⟩ = some (.int .i64 a0_2) := (blk_cell BK103.out 2).trans rfl
              have hcz18_3 : w4.cell? ⟨gb103, 3, none⟩ = some (.int .i64 a0_3) := (blk_cell BK103.out 3).trans rfl
              have hcz18_4 : w4.cell? ⟨gb103, 4, none⟩ = some (.int .i64 a0_4) := (blk_cell BK103.out 4).trans rfl
              have hcz18_5 : w4.cell? ⟨gb103, 5, none⟩ = some (.int .i64 a0_5) := (blk_cell BK103.out 5).trans rfl
              have hcz18_6 : w4.cell? ⟨gb103, 6, none⟩ = some (.bool a0_6) := (blk_cell BK103.out 6).trans rfl
              have hfz18_0 := blk_frozen BK103.out 0
              have hfz18_1 := blk_frozen BK103.out 1
              have hfz18_2 := blk_frozen BK103.out 2
              have hfz18_3 := blk_frozen BK103.out 3
              have hfz18_4 := blk_frozen BK103.out 4
              have hfz18_5 := blk_frozen BK103.out 5
              have hfz18_6 := blk_frozen BK103.out 6
              go_wp2_with (first | ((with_reducible refine gate_callee (f := 21) rfl ?_); refine goesL_ (some 8) rfl rfl Try.func21 (by kernel_rfl) rfl #[.int .i64 a0_0, .int .i64 8, .int .i64 64] rfl (by (try simp only [List.map_toArray, List.map_cons, List.map_nil]); first | done | rfl | (simp only [List.length_drop, List.length_take]; rfl)) ?_; (with_reducible refine (size_within.calls a0_0 8 64 true _ A5.out).mono ?_); rintro e w' ⟨rfl, ⟨nd, rfl⟩⟩; refine ⟨_, rfl, ?_⟩) | (go_at_call 21; (with_reducible refine (size_within.calls a0_1 4 32 true _ A7.out).mono ?_); rintro e w' ⟨rfl, ⟨nd, rfl⟩⟩) | (go_at_call 21; (with_reducible refine (size_within.calls a0_3 0 4 true _ A9.out).mono ?_); rintro e w' ⟨rfl, ⟨nd, rfl⟩⟩) | (go_at_call 21; (with_reducible refine (size_within.calls a0_2 1 512 true _ A11.out).mono ?_); rintro e w' ⟨rfl, ⟨nd, rfl⟩⟩) | (go_at_call 21; (with_reducible refine (size_within.calls a0_5 1 ji13 true _ A14.out).mono ?_); rintro e w' ⟨rfl, ⟨nd, rfl⟩⟩) | (go_at_call 21; (with_reducible refine (size_within.calls a0_4 1 512 t110 _ A16.out).mono ?_); rintro e w' ⟨rfl, ⟨nd, rfl⟩⟩))
              go_meet
              case rel => exact ⟨_, (!t110), (by first | rfl | (simp; done) | (simp [*]; done)), H', ⟨by first | omega | exact Nat.le_refl _⟩, ⟨by (with_reducible repeat (first | refine blk_drewN ?_ _ | refine blk_drew ?_ | refine blk_alloc ?_ _)); exact BK103.out⟩, ⟨by (with_reducible repeat (first | refine blk_drewN ?_ _ | refine blk_drew ?_ | refine blk_alloc ?_ _)); exact BK104.out⟩, ⟨by repeat (first | (with_reducible first | exact HB.out | apply below_alloc | apply pw_below_drewN | apply below_drew1 | refine below_set ?_ GE103.out | refine below_set ?_ GE104.out) | exact HB.out)⟩⟩
            · replace c15 := Bool.eq_false_iff.mpr c15
              subst c15
              have H1 : (size_Of.j0 k true a0_0 a0_1 a0_2 a0_3 a0_4 a0_5 a0_6) = some (r1, r2, r3, r4, r5, r6, r7, r8, r9, r10, r11, r12) := by rw [if_neg (show ¬ (false = true) by decide)] at H; exact H
              clear H
              have H := H1
              clear H1
              have H' := Aside0.mk H
              clear H
              have hnb19 := NB103_104.out
              have hnc19 := NB104_103.out
              have hcz20_0 : w4.cell? ⟨gb103, 0, none⟩ = some (.int .i64 a0_0) := (blk_cell BK103.out 0).trans rfl
              have hcz20_1 : w4.cell? ⟨gb103, 1, none⟩ = some (.int .i64 a0_1) := (blk_cell BK103.out 1).trans rfl
              have hcz20_2 : w4.cell? ⟨gb103, 2, none⟩ = some (.int .i64 a0_2) := (blk_cell BK103.out 2).trans rfl
              have hcz20_3 : w4.cell? ⟨gb103, 3, none⟩ = some (.int .i64 a0_3) := (blk_cell BK103.out 3).trans rfl
              have hcz20_4 : w4.cell? ⟨gb103, 4, none⟩ = some (.int .i64 a0_4) := (blk_cell BK103.out 4).trans rfl
              have hcz20_5 : w4.cell? ⟨gb103, 5, none⟩ = some (.int .i64 a0_5) := (blk_cell BK103.out 5).trans rfl
              have hcz20_6 : w4.cell? ⟨gb103, 6, none⟩ = some (.bool a0_6) := (blk_cell BK103.out 6).trans rfl
              have hfz20_0 := blk_frozen BK103.out 0
              have hfz20_1 := blk_frozen BK103.out 1
              have hfz20_2 := blk_frozen BK103.out 2
              have hfz20_3 := blk_frozen BK103.out 3
              have hfz20_4 := blk_frozen BK103.out 4
              have hfz20_5 := blk_frozen BK103.out 5
              have hfz20_6 := blk_frozen BK103.out 6
              go_wp2_with (first | ((with_reducible refine gate_callee (f := 21) rfl ?_); refine goesL_ (some 8) rfl rfl Try.func21 (by kernel_rfl) rfl #[.int .i64 a0_0, .int .i64 8, .int .i64 64] rfl (by (try simp only [List.map_toArray, List.map_cons, List.map_nil]); first | done | rfl | (simp only [List.length_drop, List.length_take]; rfl)) ?_; (with_reducible refine (size_within.calls a0_0 8 64 true _ A5.out).mono ?_); rintro e w' ⟨rfl, ⟨nd, rfl⟩⟩; refine ⟨_, rfl, ?_⟩) | (go_at_call 21; (with_reducible refine (size_within.calls a0_1 4 32 true _ A7.out).mono ?_); rintro e w' ⟨rfl, ⟨nd, rfl⟩⟩) | (go_at_call 21; (with_reducible refine (size_within.calls a0_3 0 4 true _ A9.out).mono ?_); rintro e w' ⟨rfl, ⟨nd, rfl⟩⟩) | (go_at_call 21; (with_reducible refine (size_within.calls a0_2 1 512 true _ A11.out).mono ?_); rintro e w' ⟨rfl, ⟨nd, rfl⟩⟩) | (go_at_call 21; (with_reducible refine (size_within.calls a0_5 1 ji13 false _ A14.out).mono ?_); rintro e w' ⟨rfl, ⟨nd, rfl⟩⟩))
              go_meet
              case rel => exact ⟨_, (true), (by first | rfl | (simp; done) | (simp [*]; done)), H', ⟨by first | omega | exact Nat.le_refl _⟩, ⟨by (with_reducible repeat (first | refine blk_drewN ?_ _ | refine blk_drew ?_ | refine blk_alloc ?_ _)); exact BK103.out⟩, ⟨by (with_reducible repeat (first | refine blk_drewN ?_ _ | refine blk_drew ?_ | refine blk_alloc ?_ _)); exact BK104.out⟩, ⟨by repeat (first | (with_reducible first | exact HB.out | apply below_alloc | apply pw_below_drewN | apply below_drew1 | refine below_set ?_ GE103.out | refine below_set ?_ GE104.out) | exact HB.out)⟩⟩
          · replace c12 := Bool.eq_false_iff.mpr c12
            subst c12
            have H1 : (size_Of.j0 k true a0_0 a0_1 a0_2 a0_3 a0_4 a0_5 a0_6) = some (r1, r2, r3, r4, r5, r6, r7, r8, r9, r10, r11, r12) := by rw [if_neg (show ¬ (false = true) by decide)] at H; exact H
            clear H
            have H := H1
            clear H1
            have H' := Aside0.mk H
            clear H
            have hnb21 := NB103_104.out
            have hnc21 := NB104_103.out
            have hcz22_0 : w4.cell? ⟨gb103, 0, none⟩ = some (.int .i64 a0_0) := (blk_cell BK103.out 0).trans rfl
            have hcz22_1 : w4.cell? ⟨gb103, 1, none⟩ = some (.int .i64 a0_1) := (blk_cell BK103.out 1).trans rfl
            have hcz22_2 : w4.cell? ⟨gb103, 2, none⟩ = some (.int .i64 a0_2) := (blk_cell BK103.out 2).trans rfl
            have hcz22_3 : w4.cell? ⟨gb103, 3, none⟩ = some (.int .i64 a0_3) := (blk_cell BK103.out 3).trans rfl
            have hcz22_4 : w4.cell? ⟨gb103, 4, none⟩ = some (.int .i64 a0_4) := (blk_cell BK103.out 4).trans rfl
            have hcz22_5 : w4.cell? ⟨gb103, 5, none⟩ = some (.int .i64 a0_5) := (blk_cell BK103.out 5).trans rfl
            have hcz22_6 : w4.cell? ⟨gb103, 6, none⟩ = some (.bool a0_6) := (blk_cell BK103.out 6).trans rfl
            have hfz22_0 := blk_frozen BK103.out 0
            have hfz22_1 := blk_frozen BK103.out 1
            have hfz22_2 := blk_frozen BK103.out 2
            have hfz22_3 := blk_frozen BK103.out 3
            have hfz22_4 := blk_frozen BK103.out 4
            have hfz22_5 := blk_frozen BK103.out 5
            have hfz22_6 := blk_frozen BK103.out 6
            go_wp2_with (first | ((with_reducible refine gate_callee (f := 21) rfl ?_); refine goesL_ (some 8) rfl rfl Try.func21 (by kernel_rfl) rfl #[.int .i64 a0_0, .int .i64 8, .int .i64 64] rfl (by (try simp only [List.map_toArray, List.map_cons, List.map_nil]); first | done | rfl | (simp only [List.length_drop, List.length_take]; rfl)) ?_; (with_reducible refine (size_within.calls a0_0 8 64 true _ A5.out).mono ?_); rintro e w' ⟨rfl, ⟨nd, rfl⟩⟩; refine ⟨_, rfl, ?_⟩) | (go_at_call 21; (with_reducible refine (size_within.calls a0_1 4 32 true _ A7.out).mono ?_); rintro e w' ⟨rfl, ⟨nd, rfl⟩⟩) | (go_at_call 21; (with_reducible refine (size_within.calls a0_3 0 4 true _ A9.out).mono ?_); rintro e w' ⟨rfl, ⟨nd, rfl⟩⟩) | (go_at_call 21; (with_reducible refine (size_within.calls a0_2 1 512 false _ A11.out).mono ?_); rintro e w' ⟨rfl, ⟨nd, rfl⟩⟩))
            go_meet
            case rel => exact ⟨_, (true), (by first | rfl | (simp; done) | (simp [*]; done)), H', ⟨by first | omega | exact Nat.le_refl _⟩, ⟨by (with_reducible repeat (first | refine blk_drewN ?_ _ | refine blk_drew ?_ | refine blk_alloc ?_ _)); exact BK103.out⟩, ⟨by (with_reducible repeat (first | refine blk_drewN ?_ _ | refine blk_drew ?_ | refine blk_alloc ?_ _)); exact BK104.out⟩, ⟨by repeat (first | (with_reducible first | exact HB.out | apply below_alloc | apply pw_below_drewN | apply below_drew1 | refine below_set ?_ GE103.out | refine below_set ?_ GE104.out) | exact HB.out)⟩⟩
        · replace c10 := Bool.eq_false_iff.mpr c10
          subst c10
          have H1 : (size_Of.j0 k true a0_0 a0_1 a0_2 a0_3 a0_4 a0_5 a0_6) = some (r1, r2, r3, r4, r5, r6, r7, r8, r9, r10, r11, r12) := by rw [if_neg (show ¬ (false = true) by decide)] at H; exact H
          clear H
          have H := H1
          clear H1
          have H' := Aside0.mk H
          clear H
          have hnb23 := NB103_104.out
          have hnc23 := NB104_103.out
          have hcz24_0 : w4.cell? ⟨gb103, 0, none⟩ = some (.int .i64 a0_0) := (blk_cell BK103.out 0).trans rfl
          have hcz24_1 : w4.cell? ⟨gb103, 1, none⟩ = some (.int .i64 a0_1) := (blk_cell BK103.out 1).trans rfl
          have hcz24_2 : w4.cell? ⟨gb103, 2, none⟩ = some (.int .i64 a0_2) := (blk_cell BK103.out 2).trans rfl
          have hcz24_3 : w4.cell? ⟨gb103, 3, none⟩ = some (.int .i64 a0_3) := (blk_cell BK103.out 3).trans rfl
          have hcz24_4 : w4.cell? ⟨gb103, 4, none⟩ = some (.int .i64 a0_4) := (blk_cell BK103.out 4).trans rfl
          have hcz24_5 : w4.cell? ⟨gb103, 5, none⟩ = some (.int .i64 a0_5) := (blk_cell BK103.out 5).trans rfl
          have hcz24_6 : w4.cell? ⟨gb103, 6, none⟩ = some (.bool a0_6) := (blk_cell BK103.out 6).trans rfl
          have hfz24_0 := blk_frozen BK103.out 0
          have hfz24_1 := blk_frozen BK103.out 1
          have hfz24_2 := blk_frozen BK103.out 2
          have hfz24_3 := blk_frozen BK103.out 3
          have hfz24_4 := blk_frozen BK103.out 4
          have hfz24_5 := blk_frozen BK103.out 5
          have hfz24_6 := blk_frozen BK103.out 6
          go_wp2_with (first | ((with_reducible refine gate_callee (f := 21) rfl ?_); refine goesL_ (some 8) rfl rfl Try.func21 (by kernel_rfl) rfl #[.int .i64 a0_0, .int .i64 8, .int .i64 64] rfl (by (try simp only [List.map_toArray, List.map_cons, List.map_nil]); first | done | rfl | (simp only [List.length_drop, List.length_take]; rfl)) ?_; (with_reducible refine (size_within.calls a0_0 8 64 true _ A5.out).mono ?_); rintro e w' ⟨rfl, ⟨nd, rfl⟩⟩; refine ⟨_, rfl, ?_⟩) | (go_at_call 21; (with_reducible refine (size_within.calls a0_1 4 32 true _ A7.out).mono ?_); rintro e w' ⟨rfl, ⟨nd, rfl⟩⟩) | (go_at_call 21; (with_reducible refine (size_within.calls a0_3 0 4 false _ A9.out).mono ?_); rintro e w' ⟨rfl, ⟨nd, rfl⟩⟩))
          go_meet
          case rel => exact ⟨_, (true), (by first | rfl | (simp; done) | (simp [*]; done)), H', ⟨by first | omega | exact Nat.le_refl _⟩, ⟨by (with_reducible repeat (first | refine blk_drewN ?_ _ | refine blk_drew ?_ | refine blk_alloc ?_ _)); exact BK103.out⟩, ⟨by (with_reducible repeat (first | refine blk_drewN ?_ _ | refine blk_drew ?_ | refine blk_alloc ?_ _)); exact BK104.out⟩, ⟨by repeat (first | (with_reducible first | exact HB.out | apply below_alloc | apply pw_below_drewN | apply below_drew1 | refine below_set ?_ GE103.out | refine below_set ?_ GE104.out) | exact HB.out)⟩⟩
      · replace c8 := Bool.eq_false_iff.mpr c8
        subst c8
        have H1 : (size_Of.j0 k true a0_0 a0_1 a0_2 a0_3 a0_4 a0_5 a0_6) = some (r1, r2, r3, r4, r5, r6, r7, r8, r9, r10, r11, r12) := by rw [if_neg (show ¬ (false = true) by decide)] at H; exact H
        clear H
        have H := H1
        clear H1
        have H' := Aside0.mk H
        clear H
        have hnb25 := NB103_104.out
        have hnc25 := NB104_103.out
        have hcz26_0 : w4.cell? ⟨gb103, 0, none⟩ = some (.int .i64 a0_0) := (blk_cell BK103.out 0).trans rfl
        have hcz26_1 : w4.cell? ⟨gb103, 1, none⟩ = some (.int .i64 a0_1) := (blk_cell BK103.out 1).trans rfl
        have hcz26_2 : w4.cell? ⟨gb103, 2, none⟩ = some (.int .i64 a0_2) := (blk_cell BK103.out 2).trans rfl
        have hcz26_3 : w4.cell? ⟨gb103, 3, none⟩ = some (.int .i64 a0_3) := (blk_cell BK103.out 3).trans rfl
        have hcz26_4 : w4.cell? ⟨gb103, 4, none⟩ = some (.int .i64 a0_4) := (blk_cell BK103.out 4).trans rfl
        have hcz26_5 : w4.cell? ⟨gb103, 5, none⟩ = some (.int .i64 a0_5) := (blk_cell BK103.out 5).trans rfl
        have hcz26_6 : w4.cell? ⟨gb103, 6, none⟩ = some (.bool a0_6) := (blk_cell BK103.out 6).trans rfl
        have hfz26_0 := blk_frozen BK103.out 0
        have hfz26_1 := blk_frozen BK103.out 1
        have hfz26_2 := blk_frozen BK103.out 2
        have hfz26_3 := blk_frozen BK103.out 3
        have hfz26_4 := blk_frozen BK103.out 4
        have hfz26_5 := blk_frozen BK103.out 5
        have hfz26_6 := blk_frozen BK103.out 6
        go_wp2_with (first | ((with_reducible refine gate_callee (f := 21) rfl ?_); refine goesL_ (some 8) rfl rfl Try.func21 (by kernel_rfl) rfl #[.int .i64 a0_0, .int .i64 8, .int .i64 64] rfl (by (try simp only [List.map_toArray, List.map_cons, List.map_nil]); first | done | rfl | (simp only [List.length_drop, List.length_take]; rfl)) ?_; (with_reducible refine (size_within.calls a0_0 8 64 true _ A5.out).mono ?_); rintro e w' ⟨rfl, ⟨nd, rfl⟩⟩; refine ⟨_, rfl, ?_⟩) | (go_at_call 21; (with_reducible refine (size_within.calls a0_1 4 32 false _ A7.out).mono ?_); rintro e w' ⟨rfl, ⟨nd, rfl⟩⟩))
        go_meet
        case rel => exact ⟨_, (true), (by first | rfl | (simp; done) | (simp [*]; done)), H', ⟨by first | omega | exact Nat.le_refl _⟩, ⟨by (with_reducible repeat (first | refine blk_drewN ?_ _ | refine blk_drew ?_ | refine blk_alloc ?_ _)); exact BK103.out⟩, ⟨by (with_reducible repeat (first | refine blk_drewN ?_ _ | refine blk_drew ?_ | refine blk_alloc ?_ _)); exact BK104.out⟩, ⟨by repeat (first | (with_reducible first | exact HB.out | apply below_alloc | apply pw_below_drewN | apply below_drew1 | refine below_set ?_ GE103.out | refine below_set ?_ GE104.out) | exact HB.out)⟩⟩
    · replace c6 := Bool.eq_false_iff.mpr c6
      subst c6
      have H1 : (size_Of.j0 k true a0_0 a0_1 a0_2 a0_3 a0_4 a0_5 a0_6) = some (r1, r2, r3, r4, r5, r6, r7, r8, r9, r10, r11, r12) := by rw [if_neg (show ¬ (false = true) by decide)] at H; exact H
      clear H
      have H := H1
      clear H1
      have H' := Aside0.mk H
      clear H
      have hnb27 := NB103_104.out
      have hnc27 := NB104_103.out
      have hcz28_0 : w4.cell? ⟨gb103, 0, none⟩ = some (.int .i64 a0_0) := (blk_cell BK103.out 0).trans rfl
      have hcz28_1 : w4.cell? ⟨gb103, 1, none⟩ = some (.int .i64 a0_1) := (blk_cell BK103.out 1).trans rfl
      have hcz28_2 : w4.cell? ⟨gb103, 2, none⟩ = some (.int .i64 a0_2) := (blk_cell BK103.out 2).trans rfl
      have hcz28_3 : w4.cell? ⟨gb103, 3, none⟩ = some (.int .i64 a0_3) := (blk_cell BK103.out 3).trans rfl
      have hcz28_4 : w4.cell? ⟨gb103, 4, none⟩ = some (.int .i64 a0_4) := (blk_cell BK103.out 4).trans rfl
      have hcz28_5 : w4.cell? ⟨gb103, 5, none⟩ = some (.int .i64 a0_5) := (blk_cell BK103.out 5).trans rfl
      have hcz28_6 : w4.cell? ⟨gb103, 6, none⟩ = some (.bool a0_6) := (blk_cell BK103.out 6).trans rfl
      have hfz28_0 := blk_frozen BK103.out 0
      have hfz28_1 := blk_frozen BK103.out 1
      have hfz28_2 := blk_frozen BK103.out 2
      have hfz28_3 := blk_frozen BK103.out 3
      have hfz28_4 := blk_frozen BK103.out 4
      have hfz28_5 := blk_frozen BK103.out 5
      have hfz28_6 := blk_frozen BK103.out 6
      go_wp2_with (first | ((with_reducible refine gate_callee (f := 21) rfl ?_); refine goesL_ (some 8) rfl rfl Try.func21 (by kernel_rfl) rfl #[.int .i64 a0_0, .int .i64 8, .int .i64 64] rfl (by (try simp only [List.map_toArray, List.map_cons, List.map_nil]); first | done | rfl | (simp only [List.length_drop, List.length_take]; rfl)) ?_; (with_reducible refine (size_within.calls a0_0 8 64 false _ A5.out).mono ?_); rintro e w' ⟨rfl, ⟨nd, rfl⟩⟩; refine ⟨_, rfl, ?_⟩))
      go_meet
      case rel => exact ⟨_, (true), (by first | rfl | (simp; done) | (simp [*]; done)), H', ⟨by first | omega | exact Nat.le_refl _⟩, ⟨by (with_reducible repeat (first | refine blk_drewN ?_ _ | refine blk_drew ?_ | refine blk_alloc ?_ _)); exact BK103.out⟩, ⟨by (with_reducible repeat (first | refine blk_drewN ?_ _ | refine blk_drew ?_ | refine blk_alloc ?_ _)); exact BK104.out⟩, ⟨by repeat (first | (with_reducible first | exact HB.out | apply below_alloc | apply pw_below_drewN | apply below_drew1 | refine below_set ?_ GE103.out | refine below_set ?_ GE104.out) | exact HB.out)⟩⟩
  case rest =>
    clear HC2
    try clear c1
    try clear c2
    try clear p2
    try clear c6
    try clear c8
    try clear c9
    try clear c10
    try clear c12
    try clear c15
    try clear c17
    try clear c19
    try clear c21
    try clear c23
    try clear c25
    try clear c27
    try clear hcz18_0
    try clear hcz18_1
    try clear hcz18_2
    try clear hcz18_3
    try clear hcz18_4
    try clear hcz18_5
    try clear hcz18_6
    try clear hcz20_0
    try clear hcz20_1
    try clear hcz20_2
    try clear hcz20_3
    try clear hcz20_4
    try clear hcz20_5
    try clear hcz20_6
    try clear hcz22_0
    try clear hcz22_1
    try clear hcz22_2
    try clear hcz22_3
    try clear hcz22_4
    try clear hcz22_5
    try clear hcz22_6
    try clear hcz24_0
    try clear hcz24_1
    try clear hcz24_2
    try clear hcz24_3
    try clear hcz24_4
    try clear hcz24_5
    try clear hcz24_6
    try clear hcz26_0
    try clear hcz26_1
    try clear hcz26_2
    try clear hcz26_3
    try clear hcz26_4
    try clear hcz26_5
    try clear hcz26_6
    try clear hcz28_0
    try clear hcz28_1
    try clear hcz28_2
    try clear hcz28_3
    try clear hcz28_4
    try clear hcz28_5
    try clear hcz28_6
    try clear hfz18_0
    try clear hfz18_1
    try clear hfz18_2
    try clear hfz18_3
    try clear hfz18_4
    try clear hfz18_5
    try clear hfz18_6
    try clear hfz20_0
    try clear hfz20_1
    try clear hfz20_2
    try clear hfz20_3
    try clear hfz20_4
    try clear hfz20_5
    try clear hfz20_6
    try clear hfz22_0
    try clear hfz22_1
    try clear hfz22_2
    try clear hfz22_3
    try clear hfz22_4
    try clear hfz22_5
    try clear hfz22_6
    try clear hfz24_0
    try clear hfz24_1
    try clear hfz24_2
    try clear hfz24_3
    try clear hfz24_4
    try clear hfz24_5
    try clear hfz24_6
    try clear hfz26_0
    try clear hfz26_1
    try clear hfz26_2
    try clear hfz26_3
    try clear hfz26_4
    try clear hfz26_5
    try clear hfz26_6
    try clear hfz28_0
    try clear hfz28_1
    try clear hfz28_2
    try clear hfz28_3
    try clear hfz28_4
    try clear hfz28_5
    try clear hfz28_6
    obtain ⟨kq, x44_1, rfl, HA, HJ1, BK103, BK104, HB⟩ := hcut
    cases kq with
    | zero => exact absurd HA.out (by simp [size_Of.j0])
    | succ kj1 =>
      have H := HA.out
      clear HA
      simp only [size_Of.j0] at H
      by_cases c29 : x44_1 = true
      · subst c29
        have H1 : (some (0, 0, 0, 0, 0, 0, 0, 0, 0, 0, 0, 1)) = some (r1, r2, r3, r4, r5, r6, r7, r8, r9, r10, r11, r12) := by rw [if_pos rfl] at H; exact H
        clear H
        have H := H1
        clear H1
        simp only [Option.some.injEq, Prod.mk.injEq] at H
        obtain ⟨rfl, rfl, rfl, rfl, rfl, rfl, rfl, rfl, rfl, rfl, rfl, rfl⟩ := H
        have hnb30 := NB104_103.out
        have hnc30 := NB103_104.out
        have hcz31_0 : wc.cell? ⟨gb104, 0, none⟩ = some (.int .i64 0) := (blk_cell BK104.out 0).trans rfl
        have hcz31_1 : wc.cell? ⟨gb104, 1, none⟩ = some (.int .i64 0) := (blk_cell BK104.out 1).trans rfl
        have hcz31_2 : wc.cell? ⟨gb104, 2, none⟩ = some (.int .i64 0) := (blk_cell BK104.out 2).trans rfl
        have hcz31_3 : wc.cell? ⟨gb104, 3, none⟩ = some (.int .i64 0) := (blk_cell BK104.out 3).trans rfl
        have hcz31_4 : wc.cell? ⟨gb104, 4, none⟩ = some (.int .i64 0) := (blk_cell BK104.out 4).trans rfl
        have hcz31_5 : wc.cell? ⟨gb104, 5, none⟩ = some (.int .i64 0) := (blk_cell BK104.out 5).trans rfl
        have hcz31_6 : wc.cell? ⟨gb104, 6, none⟩ = some (.int .i64 0) := (blk_cell BK104.out 6).trans rfl
        have hcz31_7 : wc.cell? ⟨gb104, 7, none⟩ = some (.int .i64 0) := (blk_cell BK104.out 7).trans rfl
        have hcz31_8 : wc.cell? ⟨gb104, 8, none⟩ = some (.int .i64 0) := (blk_cell BK104.out 8).trans rfl
        have hcz31_9 : wc.cell? ⟨gb104, 9, none⟩ = some (.int .i64 0) := (blk_cell BK104.out 9).trans rfl
        have hcz31_10 : wc.cell? ⟨gb104, 10, none⟩ = some (.int .i64 0) := (blk_cell BK104.out 10).trans rfl
        have hfz31_0 := blk_frozen BK104.out 0
        have hfz31_1 := blk_frozen BK104.out 1
        have hfz31_2 := blk_frozen BK104.out 2
        have hfz31_3 := blk_frozen BK104.out 3
        have hfz31_4 := blk_frozen BK104.out 4
        have hfz31_5 := blk_frozen BK104.out 5
        have hfz31_6 := blk_frozen BK104.out 6
        have hfz31_7 := blk_frozen BK104.out 7
        have hfz31_8 := blk_frozen BK104.out 8
        have hfz31_9 := blk_frozen BK104.out 9
        have hfz31_10 := blk_frozen BK104.out 10
        go_wp2
        refine bodyPost_ret (results_ct rfl _ _ gb104 24 #[.int .i64 0, .int .i64 0, .int .i64 0, .int .i64 0, .int .i64 0, .int .i64 0, .int .i64 0, .int .i64 0, .int .i64 0, .int .i64 0, .int .i64 0] (0, 0) _ rfl (by (with_reducible repeat (first | refine blk_drewN ?_ _ | refine blk_drew ?_ | refine blk_alloc ?_ _)); refine blk_put (cs := #[.int .i64 0, .int .i64 0, .int .i64 0, .int .i64 0, .int .i64 0, .int .i64 0, .int .i64 0, .int .i64 0, .int .i64 0, .int .i64 0, .int .i64 0]) ?_ 10 _ rfl; (with_reducible repeat (first | refine blk_drewN ?_ _ | refine blk_drew ?_ | refine blk_alloc ?_ _)); refine blk_put (cs := #[.int .i64 0, .int .i64 0, .int .i64 0, .int .i64 0, .int .i64 0, .int .i64 0, .int .i64 0, .int .i64 0, .int .i64 0, .int .i64 0, .int .i64 0]) ?_ 9 _ rfl; (with_reducible repeat (first | refine blk_drewN ?_ _ | refine blk_drew ?_ | refine blk_alloc ?_ _)); refine blk_put (cs := #[.int .i64 0, .int .i64 0, .int .i64 0, .int .i64 0, .int .i64 0, .int .i64 0, .int .i64 0, .int .i64 0, .int .i64 0, .int .i64 0, .int .i64 0]) ?_ 8 _ rfl; (with_reducible repeat (first | refine blk_drewN ?_ _ | refine blk_drew ?_ | refine blk_alloc ?_ _)); refine blk_put (cs := #[.int .i64 0, .int .i64 0, .int .i64 0, .int .i64 0, .int .i64 0, .int .i64 0, .int .i64 0, .int .i64 0, .int .i64 0, .int .i64 0, .int .i64 0]) ?_ 7 _ rfl; (with_reducible repeat (first | refine blk_drewN ?_ _ | refine blk_drew ?_ | refine blk_alloc ?_ _)); refine blk_put (cs := #[.int .i64 0, .int .i64 0, .int .i64 0, .int .i64 0, .int .i64 0, .int .i64 0, .int .i64 0, .int .i64 0, .int .i64 0, .int .i64 0, .int .i64 0]) ?_ 6 _ rfl; (with_reducible repeat (first | refine blk_drewN ?_ _ | refine blk_drew ?_ | refine blk_alloc ?_ _)); refine blk_put (cs := #[.int .i64 0, .int .i64 0, .int .i64 0, .int .i64 0, .int .i64 0, .int .i64 0, .int .i64 0, .int .i64 0, .int .i64 0, .int .i64 0, .int .i64 0]) ?_ 5 _ rfl; (with_reducible repeat (first | refine blk_drewN ?_ _ | refine blk_drew ?_ | refine blk_alloc ?_ _)); refine blk_put (cs := #[.int .i64 0, .int .i64 0, .int .i64 0, .int .i64 0, .int .i64 0, .int .i64 0, .int .i64 0, .int .i64 0, .int .i64 0, .int .i64 0, .int .i64 0]) ?_ 4 _ rfl; (with_reducible repeat (first | refine blk_drewN ?_ _ | refine blk_drew ?_ | refine blk_alloc ?_ _)); refine blk_put (cs := #[.int .i64 0, .int .i64 0, .int .i64 0, .int .i64 0, .int .i64 0, .int .i64 0, .int .i64 0, .int .i64 0, .int .i64 0, .int .i64 0, .int .i64 0]) ?_ 3 _ rfl; (with_reducible repeat (first | refine blk_drewN ?_ _ | refine blk_drew ?_ | refine blk_alloc ?_ _)); refine blk_put (cs := #[.int .i64 0, .int .i64 0, .int .i64 0, .int .i64 0, .int .i64 0, .int .i64 0, .int .i64 0, .int .i64 0, .int .i64 0, .int .i64 0, .int .i64 0]) ?_ 2 _ rfl; (with_reducible repeat (first | refine blk_drewN ?_ _ | refine blk_drew ?_ | refine blk_alloc ?_ _)); refine blk_put (cs := #[.int .i64 0, .int .i64 0, .int .i64 0, .int .i64 0, .int .i64 0, .int .i64 0, .int .i64 0, .int .i64 0, .int .i64 0, .int .i64 0, .int .i64 0]) ?_ 1 _ rfl; (with_reducible repeat (first | refine blk_drewN ?_ _ | refine blk_drew ?_ | refine blk_alloc ?_ _)); refine blk_put (cs := #[.int .i64 0, .int .i64 0, .int .i64 0, .int .i64 0, .int .i64 0, .int .i64 0, .int .i64 0, .int .i64 0, .int .i64 0, .int .i64 0, .int .i64 0]) ?_ 0 _ rfl; (with_reducible repeat (first | refine blk_drewN ?_ _ | refine blk_drew ?_ | refine blk_alloc ?_ _)); exact BK104.out) Try.underlying24 rfl (by kernel_rfl)) rfl ?_
        exact ⟨by first | rfl | (simp [errW_none, errW_some] <;> rfl) | (simp [*, errW_none, errW_some] <;> rfl), by repeat (first | (with_reducible first | exact HB.out | apply below_alloc | apply pw_below_drewN | apply below_drew1 | refine below_set ?_ GE103.out | refine below_set ?_ GE104.out) | exact HB.out)⟩
      · replace c29 := Bool.eq_false_iff.mpr c29
        subst c29
        have H1 : ((size_length.f kj1 a0_2).bind fun t112 => ((size_length.f kj1 (wrap64 ((wrap64 (2 * (wrap64 (a0_0 * a0_1)))) + 1))).bind fun t113 => ((size_length.f kj1 a0_4).bind fun t114 => ((leaf_Pages.f (wrap64 (t114 + (wrap64 (a0_4 * (wrap64 ((wrap64 (2 * t112)) + t113))))))).bind fun t115 => ((size_up.f a0_2 a0_1).bind fun t116 => ((size_length.f kj1 (wrap64 ((wrap64 (2 * a0_2)) + 1))).bind fun t117 => ((size_length.f kj1 a0_2).bind fun t118 => ((size_length.f kj1 (wrap64 ((wrap64 (2 * (wrap64 (a0_0 * a0_1)))) + 3))).bind fun t119 => ((size_length.f kj1 (wrap64 ((wrap64 (4 + a0_3)) + (mx t116 a0_1)))).bind fun t120 => ((leaf_Pages.f (wrap64 (t120 + (wrap64 ((wrap64 ((wrap64 (4 + a0_3)) + (mx t116 a0_1))) * (wrap64 ((wrap64 (t117 + t118)) + t119))))))).bind fun t121 => ((size_up.f (wrap64 (t115 + (wrap64 ((wrap64 ((wrap64 (2 * t121)) + a0_1)) + t115)))) a0_1).bind fun t122 => ((size_up.f t115 a0_1).bind fun t123 => ((size_up.f a0_2 a0_5).bind fun t124 => ((size_up.f a0_2 a0_1).bind fun t125 => (some (wrap64 ((wrap64 (2 * t112)) + t113), t115, wrap64 ((wrap64 (4 + a0_3)) + (mx t116 a0_1)), wrap64 ((wrap64 (t117 + t118)) + t119), t121, wrap64 ((wrap64 ((wrap64 (2 * t121)) + a0_1)) + t115), t122, wrap64 ((wrap64 (t122 + t123)) + 3), t124, wrap64 ((wrap64 (t125 + 8)) + (wrap64 (4 * a0_3))), wrap64 (a0_0 + (wrap64 ((wrap64 (2 * a0_1)) * (wrap64 ((wrap64 (t122 + 2)) + a0_3))))), 0)))))))))))))))) = some (r1, r2, r3, r4, r5, r6, r7, r8, r9, r10, r11, r12) := by rw [if_neg (show ¬ (false = true) by decide)] at H; exact H
        clear H
        have H := H1
        clear H1
        replace H := Option.bind_eq_some_iff.mp H
        obtain ⟨t112, A320, H⟩ := H
        replace H : ((size_length.f kj1 (wrap64 ((wrap64 (2 * (wrap64 (a0_0 * a0_1)))) + 1))).bind fun t113 => ((size_length.f kj1 a0_4).bind fun t114 => ((leaf_Pages.f (wrap64 (t114 + (wrap64 (a0_4 * (wrap64 ((wrap64 (2 * t112)) + t113))))))).bind fun t115 => ((size_up.f a0_2 a0_1).bind fun t116 => ((size_length.f kj1 (wrap64 ((wrap64 (2 * a0_2)) + 1))).bind fun t117 => ((size_length.f kj1 a0_2).bind fun t118 => ((size_length.f kj1 (wrap64 ((wrap64 (2 * (wrap64 (a0_0 * a0_1)))) + 3))).bind fun t119 => ((size_length.f kj1 (wrap64 ((wrap64 (4 + a0_3)) + (mx t116 a0_1)))).bind fun t120 => ((leaf_Pages.f (wrap64 (t120 + (wrap64 ((wrap64 ((wrap64 (4 + a0_3)) + (mx t116 a0_1))) * (wrap64 ((wrap64 (t117 + t118)) + t119))))))).bind fun t121 => ((size_up.f (wrap64 (t115 + (wrap64 ((wrap64 ((wrap64 (2 * t121)) + a0_1)) + t115)))) a0_1).bind fun t122 => ((size_up.f t115 a0_1).bind fun t123 => ((size_up.f a0_2 a0_5).bind fun t124 => ((size_up.f a0_2 a0_1).bind fun t125 => (some (wrap64 ((wrap64 (2 * t112)) + t113), t115, wrap64 ((wrap64 (4 + a0_3)) + (mx t116 a0_1)), wrap64 ((wrap64 (t117 + t118)) + t119), t121, wrap64 ((wrap64 ((wrap64 (2 * t121)) + a0_1)) + t115), t122, wrap64 ((wrap64 (t122 + t123)) + 3), t124, wrap64 ((wrap64 (t125 + 8)) + (wrap64 (4 * a0_3))), wrap64 (a0_0 + (wrap64 ((wrap64 (2 * a0_1)) * (wrap64 ((wrap64 (t122 + 2)) + a0_3))))), 0))))))))))))))) = some (r1, r2, r3, r4, r5, r6, r7, r8, r9, r10, r11, r12) := H
        have A32 := Aside0.mk A320
        clear A320
        replace H := Option.bind_eq_some_iff.mp H
        obtain ⟨t113, A330, H⟩ := H
        replace H : ((size_length.f kj1 a0_4).bind fun t114 => ((leaf_Pages.f (wrap64 (t114 + (wrap64 (a0_4 * (wrap64 ((wrap64 (2 * t112)) + t113))))))).bind fun t115 => ((size_up.f a0_2 a0_1).bind fun t116 => ((size_length.f kj1 (wrap64 ((wrap64 (2 * a0_2)) + 1))).bind fun t117 => ((size_length.f kj1 a0_2).bind fun t118 => ((size_length.f kj1 (wrap64 ((wrap64 (2 * (wrap64 (a0_0 * a0_1)))) + 3))).bind fun t119 => ((size_length.f kj1 (wrap64 ((wrap64 (4 + a0_3)) + (mx t116 a0_1)))).bind fun t120 => ((leaf_Pages.f (wrap64 (t120 + (wrap64 ((wrap64 ((wrap64 (4 + a0_3)) + (mx t116 a0_1))) * (wrap64 ((wrap64 (t117 + t118)) + t119))))))).bind fun t121 => ((size_up.f (wrap64 (t115 + (wrap64 ((wrap64 ((wrap64 (2 * t121)) + a0_1)) + t115)))) a0_1).bind fun t122 => ((size_up.f t115 a0_1).bind fun t123 => ((size_up.f a0_2 a0_5).bind fun t124 => ((size_up.f a0_2 a0_1).bind fun t125 => (some (wrap64 ((wrap64 (2 * t112)) + t113), t115, wrap64 ((wrap64 (4 + a0_3)) + (mx t116 a0_1)), wrap64 ((wrap64 (t117 + t118)) + t119), t121, wrap64 ((wrap64 ((wrap64 (2 * t121)) + a0_1)) + t115), t122, wrap64 ((wrap64 (t122 + t123)) + 3), t124, wrap64 ((wrap64 (t125 + 8)) + (wrap64 (4 * a0_3))), wrap64 (a0_0 + (wrap64 ((wrap64 (2 * a0_1)) * (wrap64 ((wrap64 (t122 + 2)) + a0_3))))), 0)))))))))))))) = some (r1, r2, r3, r4, r5, r6, r7, r8, r9, r10, r11, r12) := H
        have A33 := Aside0.mk A330
        clear A330
        replace H := Option.bind_eq_some_iff.mp H
        obtain ⟨t114, A340, H⟩ := H
        replace H : ((leaf_Pages.f (wrap64 (t114 + (wrap64 (a0_4 * (wrap64 ((wrap64 (2 * t112)) + t113))))))).bind fun t115 => ((size_up.f a0_2 a0_1).bind fun t116 => ((size_length.f kj1 (wrap64 ((wrap64 (2 * a0_2)) + 1))).bind fun t117 => ((size_length.f kj1 a0_2).bind fun t118 => ((size_length.f kj1 (wrap64 ((wrap64 (2 * (wrap64 (a0_0 * a0_1)))) + 3))).bind fun t119 => ((size_length.f kj1 (wrap64 ((wrap64 (4 + a0_3)) + (mx t116 a0_1)))).bind fun t120 => ((leaf_Pages.f (wrap64 (t120 + (wrap64 ((wrap64 ((wrap64 (4 + a0_3)) + (mx t116 a0_1))) * (wrap64 ((wrap64 (t117 + t118)) + t119))))))).bind fun t121 => ((size_up.f (wrap64 (t115 + (wrap64 ((wrap64 ((wrap64 (2 * t121)) + a0_1)) + t115)))) a0_1).bind fun t122 => ((size_up.f t115 a0_1).bind fun t123 => ((size_up.f a0_2 a0_5).bind fun t124 => ((size_up.f a0_2 a0_1).bind fun t125 => (some (wrap64 ((wrap64 (2 * t112)) + t113), t115, wrap64 ((wrap64 (4 + a0_3)) + (mx t116 a0_1)), wrap64 ((wrap64 (t117 + t118)) + t119), t121, wrap64 ((wrap64 ((wrap64 (2 * t121)) + a0_1)) + t115), t122, wrap64 ((wrap64 (t122 + t123)) + 3), t124, wrap64 ((wrap64 (t125 + 8)) + (wrap64 (4 * a0_3))), wrap64 (a0_0 + (wrap64 ((wrap64 (2 * a0_1)) * (wrap64 ((wrap64 (t122 + 2)) + a0_3))))), 0))))))))))))) = some (r1, r2, r3, r4, r5, r6, r7, r8, r9, r10, r11, r12) := H
        have A34 := Aside0.mk A340
        clear A340
        replace H := Option.bind_eq_some_iff.mp H
        obtain ⟨t115, A350, H⟩ := H
        replace H : ((size_up.f a0_2 a0_1).bind fun t116 => ((size_length.f kj1 (wrap64 ((wrap64 (2 * a0_2)) + 1))).bind fun t117 => ((size_length.f kj1 a0_2).bind fun t118 => ((size_length.f kj1 (wrap64 ((wrap64 (2 * (wrap64 (a0_0 * a0_1)))) + 3))).bind fun t119 => ((size_length.f kj1 (wrap64 ((wrap64 (4 + a0_3)) + (mx t116 a0_1)))).bind fun t120 => ((leaf_Pages.f (wrap64 (t120 + (wrap64 ((wrap64 ((wrap64 (4 + a0_3)) + (mx t116 a0_1))) * (wrap64 ((wrap64 (t117 + t118)) + t119))))))).bind fun t121 => ((size_up.f (wrap64 (t115 + (wrap64 ((wrap64 ((wrap64 (2 * t121)) + a0_1)) + t115)))) a0_1).bind fun t122 => ((size_up.f t115 a0_1).bind fun t123 => ((size_up.f a0_2 a0_5).bind fun t124 => ((size_up.f a0_2 a0_1).bind fun t125 => (some (wrap64 ((wrap64 (2 * t112)) + t113), t115, wrap64 ((wrap64 (4 + a0_3)) + (mx t116 a0_1)), wrap64 ((wrap64 (t117 + t118)) + t119), t121, wrap64 ((wrap64 ((wrap64 (2 * t121)) + a0_1)) + t115), t122, wrap64 ((wrap64 (t122 + t123)) + 3), t124, wrap64 ((wrap64 (t125 + 8)) + (wrap64 (4 * a0_3))), wrap64 (a0_0 + (wrap64 ((wrap64 (2 * a0_1)) * (wrap64 ((wrap64 (t122 + 2)) + a0_3))))), 0)))))))))))) = some (r1, r2, r3, r4, r5, r6, r7, r8, r9, r10, r11, r12) := H
        have A35 := Aside0.mk A350
        clear A350
        replace H := Option.bind_eq_some_iff.mp H
        obtain ⟨t116, A360, H⟩ := H
        replace H : ((size_length.f kj1 (wrap64 ((wrap64 (2 * a0_2)) + 1))).bind fun t117 => ((size_length.f kj1 a0_2).bind fun t118 => ((size_length.f kj1 (wrap64 ((wrap64 (2 * (wrap64 (a0_0 * a0_1)))) + 3))).bind fun t119 => ((size_length.f kj1 (wrap64 ((wrap64 (4 + a0_3)) + (mx t116 a0_1)))).bind fun t120 => ((leaf_Pages.f (wrap64 (t120 + (wrap64 ((wrap64 ((wrap64 (4 + a0_3)) + (mx t116 a0_1))) * (wrap64 ((wrap64 (t117 + t118)) + t119))))))).bind fun t121 => ((size_up.f (wrap64 (t115 + (wrap64 ((wrap64 ((wrap64 (2 * t121)) + a0_1)) + t115)))) a0_1).bind fun t122 => ((size_up.f t115 a0_1).bind fun t123 => ((size_up.f a0_2 a0_5).bind fun t124 => ((size_up.f a0_2 a0_1).bind fun t125 => (some (wrap64 ((wrap64 (2 * t112)) + t113), t115, wrap64 ((wrap64 (4 + a0_3)) + (mx t116 a0_1)), wrap64 ((wrap64 (t117 + t118)) + t119), t121, wrap64 ((wrap64 ((wrap64 (2 * t121)) + a0_1)) + t115), t122, wrap64 ((wrap64 (t122 + t123)) + 3), t124, wrap64 ((wrap64 (t125 + 8)) + (wrap64 (4 * a0_3))), wrap64 (a0_0 + (wrap64 ((wrap64 (2 * a0_1)) * (wrap64 ((wrap64 (t122 + 2)) + a0_3))))), 0))))))))))) = some (r1, r2, r3, r4, r5, r6, r7, r8, r9, r10, r11, r12) := H
        have A36 := Aside0.mk A360
        clear A360
        obtain ⟨ji37, hji37⟩ : ∃ j_ : Int, (mx t116 a0_1) = j_ := ⟨_, rfl⟩
        replace H : ((size_length.f kj1 (wrap64 ((wrap64 (2 * a0_2)) + 1))).bind fun t117 => ((size_length.f kj1 a0_2).bind fun t118 => ((size_length.f kj1 (wrap64 ((wrap64 (2 * (wrap64 (a0_0 * a0_1)))) + 3))).bind fun t119 => ((size_length.f kj1 (wrap64 ((wrap64 (4 + a0_3)) + (ji37)))).bind fun t120 => ((leaf_Pages.f (wrap64 (t120 + (wrap64 ((wrap64 ((wrap64 (4 + a0_3)) + (ji37))) * (wrap64 ((wrap64 (t117 + t118)) + t119))))))).bind fun t121 => ((size_up.f (wrap64 (t115 + (wrap64 ((wrap64 ((wrap64 (2 * t121)) + a0_1)) + t115)))) a0_1).bind fun t122 => ((size_up.f t115 a0_1).bind fun t123 => ((size_up.f a0_2 a0_5).bind fun t124 => ((size_up.f a0_2 a0_1).bind fun t125 => (some (wrap64 ((wrap64 (2 * t112)) + t113), t115, wrap64 ((wrap64 (4 + a0_3)) + (ji37)), wrap64 ((wrap64 (t117 + t118)) + t119), t121, wrap64 ((wrap64 ((wrap64 (2 * t121)) + a0_1)) + t115), t122, wrap64 ((wrap64 (t122 + t123)) + 3), t124, wrap64 ((wrap64 (t125 + 8)) + (wrap64 (4 * a0_3))), wrap64 (a0_0 + (wrap64 ((wrap64 (2 * a0_1)) * (wrap64 ((wrap64 (t122 + 2)) + a0_3))))), 0))))))))))) = some (r1, r2, r3, r4, r5, r6, r7, r8, r9, r10, r11, r12) := by first | (rw [hji37] at H; exact H) | (simp only [hji37] at H ⊢; exact H)
        (try rw [hji37] at A32)
        (try rw [hji37] at A33)
        (try rw [hji37] at A34)
        (try rw [hji37] at A35)
        (try rw [hji37] at A36)
        have hji37_ : (if t116 < a0_1 then a0_1 else t116) = ji37 := hji37
        replace H := Option.bind_eq_some_iff.mp H
        obtain ⟨t117, A380, H⟩ := H
        replace H : ((size_length.f kj1 a0_2).bind fun t118 => ((size_length.f kj1 (wrap64 ((wrap64 (2 * (wrap64 (a0_0 * a0_1)))) + 3))).bind fun t119 => ((size_length.f kj1 (wrap64 ((wrap64 (4 + a0_3)) + (ji37)))).bind fun t120 => ((leaf_Pages.f (wrap64 (t120 + (wrap64 ((wrap64 ((wrap64 (4 + a0_3)) + (ji37))) * (wrap64 ((wrap64 (t117 + t118)) + t119))))))).bind fun t121 => ((size_up.f (wrap64 (t115 + (wrap64 ((wrap64 ((wrap64 (2 * t121)) + a0_1)) + t115)))) a0_1).bind fun t122 => ((size_up.f t115 a0_1).bind fun t123 => ((size_up.f a0_2 a0_5).bind fun t124 => ((size_up.f a0_2 a0_1).bind fun t125 => (some (wrap64 ((wrap64 (2 * t112)) + t113), t115, wrap64 ((wrap64 (4 + a0_3)) + (ji37)), wrap64 ((wrap64 (t117 + t118)) + t119), t121, wrap64 ((wrap64 ((wrap64 (2 * t121)) + a0_1)) + t115), t122, wrap64 ((wrap64 (t122 + t123)) + 3), t124, wrap64 ((wrap64 (t125 + 8)) + (wrap64 (4 * a0_3))), wrap64 (a0_0 + (wrap64 ((wrap64 (2 * a0_1)) * (wrap64 ((wrap64 (t122 + 2)) + a0_3))))), 0)))))))))) = some (r1, r2, r3, r4, r5, r6, r7, r8, r9, r10, r11, r12) := H
        have A38 := Aside0.mk A380
        clear A380
        replace H := Option.bind_eq_some_iff.mp H
        obtain ⟨t118, A390, H⟩ := H
        replace H : ((size_length.f kj1 (wrap64 ((wrap64 (2 * (wrap64 (a0_0 * a0_1)))) + 3))).bind fun t119 => ((size_length.f kj1 (wrap64 ((wrap64 (4 + a0_3)) + (ji37)))).bind fun t120 => ((leaf_Pages.f (wrap64 (t120 + (wrap64 ((wrap64 ((wrap64 (4 + a0_3)) + (ji37))) * (wrap64 ((wrap64 (t117 + t118)) + t119))))))).bind fun t121 => ((size_up.f (wrap64 (t115 + (wrap64 ((wrap64 ((wrap64 (2 * t121)) + a0_1)) + t115)))) a0_1).bind fun t122 => ((size_up.f t115 a0_1).bind fun t123 => ((size_up.f a0_2 a0_5).bind fun t124 => ((size_up.f a0_2 a0_1).bind fun t125 => (some (wrap64 ((wrap64 (2 * t112)) + t113), t115, wrap64 ((wrap64 (4 + a0_3)) + (ji37)), wrap64 ((wrap64 (t117 + t118)) + t119), t121, wrap64 ((wrap64 ((wrap64 (2 * t121)) + a0_1)) + t115), t122, wrap64 ((wrap64 (t122 + t123)) + 3), t124, wrap64 ((wrap64 (t125 + 8)) + (wrap64 (4 * a0_3))), wrap64 (a0_0 + (wrap64 ((wrap64 (2 * a0_1)) * (wrap64 ((wrap64 (t122 + 2)) + a0_3))))), 0))))))))) = some (r1, r2, r3, r4, r5, r6, r7, r8, r9, r10, r11, r12) := H
        have A39 := Aside0.mk A390
        clear A390
        replace H := Option.bind_eq_some_iff.mp H
        obtain ⟨t119, A400, H⟩ := H
        replace H : ((size_length.f kj1 (wrap64 ((wrap64 (4 + a0_3)) + (ji37)))).bind fun t120 => ((leaf_Pages.f (wrap64 (t120 + (wrap64 ((wrap64 ((wrap64 (4 + a0_3)) + (ji37))) * (wrap64 ((wrap64 (t117 + t118)) + t119))))))).bind fun t121 => ((size_up.f (wrap64 (t115 + (wrap64 ((wrap64 ((wrap64 (2 * t121)) + a0_1)) + t115)))) a0_1).bind fun t122 => ((size_up.f t115 a0_1).bind fun t123 => ((size_up.f a0_2 a0_5).bind fun t124 => ((size_up.f a0_2 a0_1).bind fun t125 => (some (wrap64 ((wrap64 (2 * t112)) + t113), t115, wrap64 ((wrap64 (4 + a0_3)) + (ji37)), wrap64 ((wrap64 (t117 + t118)) + t119), t121, wrap64 ((wrap64 ((wrap64 (2 * t121)) + a0_1)) + t115), t122, wrap64 ((wrap64 (t122 + t123)) + 3), t124, wrap64 ((wrap64 (t125 + 8)) + (wrap64 (4 * a0_3))), wrap64 (a0_0 + (wrap64 ((wrap64 (2 * a0_1)) * (wrap64 ((wrap64 (t122 + 2)) + a0_3))))), 0)))))))) = some (r1, r2, r3, r4, r5, r6, r7, r8, r9, r10, r11, r12) := H
        have A40 := Aside0.mk A400
        clear A400
        replace H := Option.bind_eq_some_iff.mp H
        obtain ⟨t120, A410, H⟩ := H
        replace H : ((leaf_Pages.f (wrap64 (t120 + (wrap64 ((wrap64 ((wrap64 (4 + a0_3)) + (ji37))) * (wrap64 ((wrap64 (t117 + t118)) + t119))))))).bind fun t121 => ((size_up.f (wrap64 (t115 + (wrap64 ((wrap64 ((wrap64 (2 * t121)) + a0_1)) + t115)))) a0_1).bind fun t122 => ((size_up.f t115 a0_1).bind fun t123 => ((size_up.f a0_2 a0_5).bind fun t124 => ((size_up.f a0_2 a0_1).bind fun t125 => (some (wrap64 ((wrap64 (2 * t112)) + t113), t115, wrap64 ((wrap64 (4 + a0_3)) + (ji37)), wrap64 ((wrap64 (t117 + t118)) + t119), t121, wrap64 ((wrap64 ((wrap64 (2 * t121)) + a0_1)) + t115), t122, wrap64 ((wrap64 (t122 + t123)) + 3), t124, wrap64 ((wrap64 (t125 + 8)) + (wrap64 (4 * a0_3))), wrap64 (a0_0 + (wrap64 ((wrap64 (2 * a0_1)) * (wrap64 ((wrap64 (t122 + 2)) + a0_3))))), 0))))))) = some (r1, r2, r3, r4, r5, r6, r7, r8, r9, r10, r11, r12) := H
        have A41 := Aside0.mk A410
        clear A410
        replace H := Option.bind_eq_some_iff.mp H
        obtain ⟨t121, A420, H⟩ := H
        replace H : ((size_up.f (wrap64 (t115 + (wrap64 ((wrap64 ((wrap64 (2 * t121)) + a0_1)) + t115)))) a0_1).bind fun t122 => ((size_up.f t115 a0_1).bind fun t123 => ((size_up.f a0_2 a0_5).bind fun t124 => ((size_up.f a0_2 a0_1).bind fun t125 => (some (wrap64 ((wrap64 (2 * t112)) + t113), t115, wrap64 ((wrap64 (4 + a0_3)) + (ji37)), wrap64 ((wrap64 (t117 + t118)) + t119), t121, wrap64 ((wrap64 ((wrap64 (2 * t121)) + a0_1)) + t115), t122, wrap64 ((wrap64 (t122 + t123)) + 3), t124, wrap64 ((wrap64 (t125 + 8)) + (wrap64 (4 * a0_3))), wrap64 (a0_0 + (wrap64 ((wrap64 (2 * a0_1)) * (wrap64 ((wrap64 (t122 + 2)) + a0_3))))), 0)))))) = some (r1, r2, r3, r4, r5, r6, r7, r8, r9, r10, r11, r12) := H
        have A42 := Aside0.mk A420
        clear A420
        replace H := Option.bind_eq_some_iff.mp H
        obtain ⟨t122, A430, H⟩ := H
        replace H : ((size_up.f t115 a0_1).bind fun t123 => ((size_up.f a0_2 a0_5).bind fun t124 => ((size_up.f a0_2 a0_1).bind fun t125 => (some (wrap64 ((wrap64 (2 * t112)) + t113), t115, wrap64 ((wrap64 (4 + a0_3)) + (ji37)), wrap64 ((wrap64 (t117 + t118)) + t119), t121, wrap64 ((wrap64 ((wrap64 (2 * t121)) + a0_1)) + t115), t122, wrap64 ((wrap64 (t122 + t123)) + 3), t124, wrap64 ((wrap64 (t125 + 8)) + (wrap64 (4 * a0_3))), wrap64 (a0_0 + (wrap64 ((wrap64 (2 * a0_1)) * (wrap64 ((wrap64 (t122 + 2)) + a0_3))))), 0))))) = some (r1, r2, r3, r4, r5, r6, r7, r8, r9, r10, r11, r12) := H
        have A43 := Aside0.mk A430
        clear A430
        replace H := Option.bind_eq_some_iff.mp H
        obtain ⟨t123, A440, H⟩ := H
        replace H : ((size_up.f a0_2 a0_5).bind fun t124 => ((size_up.f a0_2 a0_1).bind fun t125 => (some (wrap64 ((wrap64 (2 * t112)) + t113), t115, wrap64 ((wrap64 (4 + a0_3)) + (ji37)), wrap64 ((wrap64 (t117 + t118)) + t119), t121, wrap64 ((wrap64 ((wrap64 (2 * t121)) + a0_1)) + t115), t122, wrap64 ((wrap64 (t122 + t123)) + 3), t124, wrap64 ((wrap64 (t125 + 8)) + (wrap64 (4 * a0_3))), wrap64 (a0_0 + (wrap64 ((wrap64 (2 * a0_1)) * (wrap64 ((wrap64 (t122 + 2)) + a0_3))))), 0)))) = some (r1, r2, r3, r4, r5, r6, r7, r8, r9, r10, r11, r12) := H
        have A44 := Aside0.mk A440
        clear A440
        replace H := Option.bind_eq_some_iff.mp H
        obtain ⟨t124, A450, H⟩ := H
        replace H : ((size_up.f a0_2 a0_1).bind fun t125 => (some (wrap64 ((wrap64 (2 * t112)) + t113), t115, wrap64 ((wrap64 (4 + a0_3)) + (ji37)), wrap64 ((wrap64 (t117 + t118)) + t119), t121, wrap64 ((wrap64 ((wrap64 (2 * t121)) + a0_1)) + t115), t122, wrap64 ((wrap64 (t122 + t123)) + 3), t124, wrap64 ((wrap64 (t125 + 8)) + (wrap64 (4 * a0_3))), wrap64 (a0_0 + (wrap64 ((wrap64 (2 * a0_1)) * (wrap64 ((wrap64 (t122 + 2)) + a0_3))))), 0))) = some (r1, r2, r3, r4, r5, r6, r7, r8, r9, r10, r11, r12) := H
        have A45 := Aside0.mk A450
        clear A450
        replace H := Option.bind_eq_some_iff.mp H
        obtain ⟨t125, A460, H⟩ := H
        replace H : (some (wrap64 ((wrap64 (2 * t112)) + t113), t115, wrap64 ((wrap64 (4 + a0_3)) + (ji37)), wrap64 ((wrap64 (t117 + t118)) + t119), t121, wrap64 ((wrap64 ((wrap64 (2 * t121)) + a0_1)) + t115), t122, wrap64 ((wrap64 (t122 + t123)) + 3), t124, wrap64 ((wrap64 (t125 + 8)) + (wrap64 (4 * a0_3))), wrap64 (a0_0 + (wrap64 ((wrap64 (2 * a0_1)) * (wrap64 ((wrap64 (t122 + 2)) + a0_3))))), 0)) = some (r1, r2, r3, r4, r5, r6, r7, r8, r9, r10, r11, r12) := H
        have A46 := Aside0.mk A460
        clear A460
        simp only [Option.some.injEq, Prod.mk.injEq] at H
        obtain ⟨rfl, rfl, rfl, rfl, rfl, rfl, rfl, rfl, rfl, rfl, rfl, rfl⟩ := H
        have hnb47 := NB103_104.out
        have hnc47 := NB104_103.out
        have hcz48_0 : wc.cell? ⟨gb103, 0, none⟩ = some (.int .i64 a0_0) := (blk_cell BK103.out 0).trans rfl
        have hcz48_1 : wc.cell? ⟨gb103, 1, none⟩ = some (.int .i64 a0_1) := (blk_cell BK103.out 1).trans rfl
        have hcz48_2 : wc.cell? ⟨gb103, 2, none⟩ = some (.int .i64 a0_2) := (blk_cell BK103.out 2).trans rfl
        have hcz48_3 : wc.cell? ⟨gb103, 3, none⟩ = some (.int .i64 a0_3) := (blk_cell BK103.out 3).trans rfl
        have hcz48_4 : wc.cell? ⟨gb103, 4, none⟩ = some (.int .i64 a0_4) := (blk_cell BK103.out 4).trans rfl
        have hcz48_5 : wc.cell? ⟨gb103, 5, none⟩ = some (.int .i64 a0_5) := (blk_cell BK103.out 5).trans rfl
        have hcz48_6 : wc.cell? ⟨gb103, 6, none⟩ = some (.bool a0_6) := (blk_cell BK103.out 6).trans rfl
        have hfz48_0 := blk_frozen BK103.out 0
        have hfz48_1 := blk_frozen BK103.out 1
        have hfz48_2 := blk_frozen BK103.out 2
        have hfz48_3 := blk_frozen BK103.out 3
        have hfz48_4 := blk_frozen BK103.out 4
        have hfz48_5 := blk_frozen BK103.out 5
        have hfz48_6 := blk_frozen BK103.out 6
        try go_wp2_with (first | ((with_reducible refine gate_dst (N := 5) rfl ?_); (try (refine gate_guard (by rfl) ?_; dsimp only)); refine box_event ?hg (N := 5) ?hd (cs := #[.int .i64 0, .int .i64 0, .int .i64 0, .int .i64 0, .int .i64 0, .int .i64 0, .int .i64 0, .int .i64 0, .int .i64 0, .int .i64 0, .int .i64 0]) (t := 24) ?hr ?_; (case hd => rfl); (case hg => rfl); (case hr => first | (go_simp; done) | (go_simp; rfl)); intro gb111 hg w49 hbox hb; have n0_ := Aside0.mk (blk_below (g := gb103) (o := .cells #[.int .i64 a0_0, .int .i64 a0_1, .int .i64 a0_2, .int .i64 a0_3, .int .i64 a0_4, .int .i64 a0_5, .bool a0_6] 29 (0, 0)) (by (with_reducible repeat (first | refine blk_drewN ?_ _ | refine blk_drew ?_ | refine blk_alloc ?_ _)); exact BK103.out) hb); have n1_ := Aside0.mk (blk_below (g := gb104) (o := .cells #[.int .i64 0, .int .i64 0, .int .i64 0, .int .i64 0, .int .i64 0, .int .i64 0, .int .i64 0, .int .i64 0, .int .i64 0, .int .i64 0, .int .i64 0] 24 (0, 0)) (by (with_reducible repeat (first | refine blk_drewN ?_ _ | refine blk_drew ?_ | refine blk_alloc ?_ _)); exact BK104.out) hb); have n2_ := Aside0.mk (below_step (by repeat (first | (with_reducible first | exact HB.out | apply below_alloc | apply pw_below_drewN | apply below_drew1 | refine below_set ?_ GE103.out | refine below_set ?_ GE104.out) | exact HB.out)) hb); have n3_ := Aside0.mk (hbox); have n4_ := Aside0.mk ((by rw [hg]; exact (below_size (by repeat (first | (with_reducible first | exact HB.out | apply below_alloc | apply pw_below_drewN | apply below_drew1 | refine below_set ?_ GE103.out | refine below_set ?_ GE104.out) | exact HB.out))) : w.heap.size ≤ gb111)); have n5_ := Aside0.mk ((by rw [hg]; exact (below_size (by repeat (first | (with_reducible first | exact HB.out | apply below_alloc | apply pw_below_drewN | apply below_drew1 | refine below_set ?_ GE103.out | refine below_set ?_ GE104.out) | exact HB.out))) : w.heap.size ≤ gb111)); have n6_ := Aside0.mk ((by rw [hg]; exact Nat.ne_of_lt (blk_lt (g := gb103) (o := .cells #[.int .i64 a0_0, .int .i64 a0_1, .int .i64 a0_2, .int .i64 a0_3, .int .i64 a0_4, .int .i64 a0_5, .bool a0_6] 29 (0, 0)) (by (with_reducible repeat (first | refine blk_drewN ?_ _ | refine blk_drew ?_ | refine blk_alloc ?_ _)); exact BK103.out)) : gb103 ≠ gb111)); have n7_ := Aside0.mk ((by rw [hg]; exact Nat.ne_of_gt (blk_lt (g := gb103) (o := .cells #[.int .i64 a0_0, .int .i64 a0_1, .int .i64 a0_2, .int .i64 a0_3, .int .i64 a0_4, .int .i64 a0_5, .bool a0_6] 29 (0, 0)) (by (with_reducible repeat (first | refine blk_drewN ?_ _ | refine blk_drew ?_ | refine blk_alloc ?_ _)); exact BK103.out)) : gb111 ≠ gb103)); have n8_ := Aside0.mk ((by rw [hg]; exact Nat.ne_of_lt (blk_lt (g := gb104) (o := .cells #[.int .i64 0, .int .i64 0, .int .i64 0, .int .i64 0, .int .i64 0, .int .i64 0, .int .i64 0, .int .i64 0, .int .i64 0, .int .i64 0, .int .i64 0] 24 (0, 0)) (by (with_reducible repeat (first | refine blk_drewN ?_ _ | refine blk_drew ?_ | refine blk_alloc ?_ _)); exact BK104.out)) : gb104 ≠ gb111)); have n9_ := Aside0.mk ((by rw [hg]; exact Nat.ne_of_gt (blk_lt (g := gb104) (o := .cells #[.int .i64 0, .int .i64 0, .int .i64 0, .int .i64 0, .int .i64 0, .int .i64 0, .int .i64 0, .int .i64 0, .int .i64 0, .int .i64 0, .int .i64 0] 24 (0, 0)) (by (with_reducible repeat (first | refine blk_drewN ?_ _ | refine blk_drew ?_ | refine blk_alloc ?_ _)); exact BK104.out)) : gb111 ≠ gb104)); clear BK103; clear BK104; clear HB; have BK103 := n0_; have BK104 := n1_; have HB := n2_; have BK111 := n3_; have GW111 := n4_; have GE111 := n5_; have NB103_111 := n6_; have NB111_103 := n7_; have NB104_111 := n8_; have NB111_104 := n9_; clear n0_ n1_ n2_ n3_ n4_ n5_ n6_ n7_ n8_ n9_; clear hb hbox hg; have hnb50 := NB103_111.out; have hnc50 := NB111_103.out; have hcz51_0 : w49.cell? ⟨gb103, 0, none⟩ = some (.int .i64 a0_0) := (blk_cell BK103.out 0).trans rfl; have hcz51_1 : w49.cell? ⟨gb103, 1, none⟩ = some (.int .i64 a0_1) := (blk_cell BK103.out 1).trans rfl; have hcz51_2 : w49.cell? ⟨gb103, 2, none⟩ = some (.int .i64 a0_2) := (blk_cell BK103.out 2).trans rfl; have hcz51_3 : w49.cell? ⟨gb103, 3, none⟩ = some (.int .i64 a0_3) := (blk_cell BK103.out 3).trans rfl; have hcz51_4 : w49.cell? ⟨gb103, 4, none⟩ = some (.int .i64 a0_4) := (blk_cell BK103.out 4).trans rfl; have hcz51_5 : w49.cell? ⟨gb103, 5, none⟩ = some (.int .i64 a0_5) := (blk_cell BK103.out 5).trans rfl; have hcz51_6 : w49.cell? ⟨gb103, 6, none⟩ = some (.bool a0_6) := (blk_cell BK103.out 6).trans rfl; have hfz51_0 := blk_frozen BK103.out 0; have hfz51_1 := blk_frozen BK103.out 1; have hfz51_2 := blk_frozen BK103.out 2; have hfz51_3 := blk_frozen BK103.out 3; have hfz51_4 := blk_frozen BK103.out 4; have hfz51_5 := blk_frozen BK103.out 5; have hfz51_6 := blk_frozen BK103.out 6) | ((with_reducible refine gate_callee (f := 22) rfl ?_); refine goesL_ (some 53) rfl rfl Try.func22 (by kernel_rfl) rfl #[.int .i64 a0_2] rfl (by (try simp only [List.map_toArray, List.map_cons, List.map_nil]); first | done | rfl | (simp only [List.length_drop, List.length_take]; rfl)) ?_; (with_reducible refine (size_length.calls kj1 a0_2 t112 _ A32.out).mono ?_); rintro e w52 ⟨rfl, hb⟩; refine ⟨_, rfl, ?_⟩; have n0_ := Aside0.mk (blk_below (g := gb103) (o := .cells #[.int .i64 a0_0, .int .i64 a0_1, .int .i64 a0_2, .int .i64 a0_3, .int .i64 a0_4, .int .i64 a0_5, .bool a0_6] 29 (0, 0)) (by (with_reducible repeat (first | refine blk_drewN ?_ _ | refine blk_drew ?_ | refine blk_alloc ?_ _)); exact BK103.out) hb); have n1_ := Aside0.mk (blk_below (g := gb104) (o := .cells #[.int .i64 0, .int .i64 0, .int .i64 0, .int .i64 0, .int .i64 0, .int .i64 0, .int .i64 0, .int .i64 0, .int .i64 0, .int .i64 0, .int .i64 0] 24 (0, 0)) (by (with_reducible repeat (first | refine blk_drewN ?_ _ | refine blk_drew ?_ | refine blk_alloc ?_ _)); exact BK104.out) hb); have n2_ := Aside0.mk (blk_below (g := gb111) (o := .cells #[.int .i64 0, .int .i64 0, .int .i64 0, .int .i64 0, .int .i64 0, .int .i64 0, .int .i64 0, .int .i64 0, .int .i64 0, .int .i64 0, .int .i64 0] 24 (0, 0)) (by (with_reducible repeat (first | refine blk_drewN ?_ _ | refine blk_drew ?_ | refine blk_alloc ?_ _)); exact BK111.out) hb); have n3_ := Aside0.mk (below_step (by repeat (first | (with_reducible first | exact HB.out | apply below_alloc | apply pw_below_drewN | apply below_drew1 | refine below_set ?_ GE103.out | refine below_set ?_ GE104.out | refine below_set ?_ GE111.out) | exact HB.out)) hb); clear BK103; clear BK104; clear BK111; clear HB; have BK103 := n0_; have BK104 := n1_; have BK111 := n2_; have HB := n3_; clear n0_ n1_ n2_ n3_; (try clear hb); (try clear hb2); (try clear hk); (try clear hi)) | ((with_reducible refine gate_callee (f := 22) rfl ?_); refine goesL_ (some 58) rfl rfl Try.func22 (by kernel_rfl) rfl #[.int .i64 (wrap64 ((wrap64 (2 * (wrap64 (a0_0 * a0_1)))) + 1))] rfl (by (try simp only [List.map_toArray, List.map_cons, List.map_nil]); first | done | rfl | (simp only [List.length_drop, List.length_take]; rfl)) ?_; (with_reducible refine (size_length.calls kj1 (wrap64 ((wrap64 (2 * (wrap64 (a0_0 * a0_1)))) + 1)) t113 _ A33.out).mono ?_); rintro e w53 ⟨rfl, hb⟩; refine ⟨_, rfl, ?_⟩; have n0_ := Aside0.mk (blk_below (g := gb103) (o := .cells #[.int .i64 a0_0, .int .i64 a0_1, .int .i64 a0_2, .int .i64 a0_3, .int .i64 a0_4, .int .i64 a0_5, .bool a0_6] 29 (0, 0)) (by (with_reducible repeat (first | refine blk_drewN ?_ _ | refine blk_drew ?_ | refine blk_alloc ?_ _)); exact BK103.out) hb); have n1_ := Aside0.mk (blk_below (g := gb104) (o := .cells #[.int .i64 0, .int .i64 0, .int .i64 0, .int .i64 0, .int .i64 0, .int .i64 0, .int .i64 0, .int .i64 0, .int .i64 0, .int .i64 0, .int .i64 0] 24 (0, 0)) (by (with_reducible repeat (first | refine blk_drewN ?_ _ | refine blk_drew ?_ | refine blk_alloc ?_ _)); exact BK104.out) hb); have n2_ := Aside0.mk (blk_below (g := gb111) (o := .cells #[.int .i64 0, .int .i64 0, .int .i64 0, .int .i64 0, .int .i64 0, .int .i64 0, .int .i64 0, .int .i64 0, .int .i64 0, .int .i64 0, .int .i64 0] 24 (0, 0)) (by (with_reducible repeat (first | refine blk_drewN ?_ _ | refine blk_drew ?_ | refine blk_alloc ?_ _)); exact BK111.out) hb); have n3_ := Aside0.mk (below_step (by repeat (first | (with_reducible first | exact HB.out | apply below_alloc | apply pw_below_drewN | apply below_drew1 | refine below_set ?_ GE103.out | refine below_set ?_ GE104.out | refine below_set ?_ GE111.out) | exact HB.out)) hb); clear BK103; clear BK104; clear BK111; clear HB; have BK103 := n0_; have BK104 := n1_; have BK111 := n2_; have HB := n3_; clear n0_ n1_ n2_ n3_; (try clear hb); (try clear hb2); (try clear hk); (try clear hi); have hnb54 := NB111_104.out; have hnc54 := NB104_111.out; have hcz55_0 : w53.cell? ⟨gb111, 0, none⟩ = some (.int .i64 0) := (blk_cell BK111.out 0).trans rfl; have hcz55_1 : w53.cell? ⟨gb111, 1, none⟩ = some (.int .i64 0) := (blk_cell BK111.out 1).trans rfl; have hcz55_2 : w53.cell? ⟨gb111, 2, none⟩ = some (.int .i64 0) := (blk_cell BK111.out 2).trans rfl; have hcz55_3 : w53.cell? ⟨gb111, 3, none⟩ = some (.int .i64 0) := (blk_cell BK111.out 3).trans rfl; have hcz55_4 : w53.cell? ⟨gb111, 4, none⟩ = some (.int .i64 0) := (blk_cell BK111.out 4).trans rfl; have hcz55_5 : w53.cell? ⟨gb111, 5, none⟩ = some (.int .i64 0) := (blk_cell BK111.out 5).trans rfl; have hcz55_6 : w53.cell? ⟨gb111, 6, none⟩ = some (.int .i64 0) := (blk_cell BK111.out 6).trans rfl; have hcz55_7 : w53.cell? ⟨gb111, 7, none⟩ = some (.int .i64 0) := (blk_cell BK111.out 7).trans rfl; have hcz55_8 : w53.cell? ⟨gb111, 8, none⟩ = some (.int .i64 0) := (blk_cell BK111.out 8).trans rfl; have hcz55_9 : w53.cell? ⟨gb111, 9, none⟩ = some (.int .i64 0) := (blk_cell BK111.out 9).trans rfl; have hcz55_10 : w53.cell? ⟨gb111, 10, none⟩ = some (.int .i64 0) := (blk_cell BK111.out 10).trans rfl; have hfz55_0 := blk_frozen BK111.out 0; have hfz55_1 := blk_frozen BK111.out 1; have hfz55_2 := blk_frozen BK111.out 2; have hfz55_3 := blk_frozen BK111.out 3; have hfz55_4 := blk_frozen BK111.out 4; have hfz55_5 := blk_frozen BK111.out 5; have hfz55_6 := blk_frozen BK111.out 6; have hfz55_7 := blk_frozen BK111.out 7; have hfz55_8 := blk_frozen BK111.out 8; have hfz55_9 := blk_frozen BK111.out 9; have hfz55_10 := blk_frozen BK111.out 10))
        have n0_ : Aside0 ((w53.setCell ⟨gb111, 0, none⟩ (.int .i64 (wrap64 ((wrap64 (2 * t112)) + t113)))).heap[gb103]? = some (.cells #[.int .i64 a0_0, .int .i64 a0_1, .int .i64 a0_2, .int .i64 a0_3, .int .i64 a0_4, .int .i64 a0_5, .bool a0_6] 29 (0, 0))) := ⟨by (with_reducible repeat (first | refine blk_drewN ?_ _ | refine blk_drew ?_ | refine blk_alloc ?_ _)); refine blk_far ?_ NB103_111.out _; (with_reducible repeat (first | refine blk_drewN ?_ _ | refine blk_drew ?_ | refine blk_alloc ?_ _)); exact BK103.out⟩
        have n1_ : Aside0 ((w53.setCell ⟨gb111, 0, none⟩ (.int .i64 (wrap64 ((wrap64 (2 * t112)) + t113)))).heap[gb104]? = some (.cells #[.int .i64 0, .int .i64 0, .int .i64 0, .int .i64 0, .int .i64 0, .int .i64 0, .int .i64 0, .int .i64 0, .int .i64 0, .int .i64 0, .int .i64 0] 24 (0, 0))) := ⟨by (with_reducible repeat (first | refine blk_drewN ?_ _ | refine blk_drew ?_ | refine blk_alloc ?_ _)); refine blk_far ?_ NB104_111.out _; (with_reducible repeat (first | refine blk_drewN ?_ _ | refine blk_drew ?_ | refine blk_alloc ?_ _)); exact BK104.out⟩
        have n2_ : Aside0 ((w53.setCell ⟨gb111, 0, none⟩ (.int .i64 (wrap64 ((wrap64 (2 * t112)) + t113)))).heap[gb111]? = some (.cells #[.int .i64 (wrap64 ((wrap64 (2 * t112)) + t113)), .int .i64 0, .int .i64 0, .int .i64 0, .int .i64 0, .int .i64 0, .int .i64 0, .int .i64 0, .int .i64 0, .int .i64 0, .int .i64 0] 24 (0, 0))) := ⟨by (with_reducible repeat (first | refine blk_drewN ?_ _ | refine blk_drew ?_ | refine blk_alloc ?_ _)); refine blk_put (cs := #[.int .i64 0, .int .i64 0, .int .i64 0, .int .i64 0, .int .i64 0, .int .i64 0, .int .i64 0, .int .i64 0, .int .i64 0, .int .i64 0, .int .i64 0]) ?_ 0 _ rfl; (with_reducible repeat (first | refine blk_drewN ?_ _ | refine blk_drew ?_ | refine blk_alloc ?_ _)); exact BK111.out⟩
        have n3_ : Aside0 (Below w.heap.size w (w53.setCell ⟨gb111, 0, none⟩ (.int .i64 (wrap64 ((wrap64 (2 * t112)) + t113))))) := ⟨by repeat (first | (with_reducible first | exact HB.out | apply below_alloc | apply pw_below_drewN | apply below_drew1 | refine below_set ?_ GE103.out | refine below_set ?_ GE104.out | refine below_set ?_ GE111.out) | exact HB.out)⟩
        (try clear BK103)
        (try clear BK104)
        (try clear BK111)
        (try clear HB)
        generalize (w53.setCell ⟨gb111, 0, none⟩ (.int .i64 (wrap64 ((wrap64 (2 * t112)) + t113)))) = w56 at n0_ n1_ n2_ n3_ ⊢
        have BK103 := n0_
        have BK104 := n1_
        have BK111 := n2_
        have HB := n3_
        clear n0_ n1_ n2_ n3_
        have n0_ := Aside0.mk (blk_drew BK103.out)
        have n1_ := Aside0.mk (blk_drew BK104.out)
        have n2_ := Aside0.mk (blk_drew BK111.out)
        have n3_ := Aside0.mk (below_drew1 HB.out)
        clear BK103
        clear BK104
        clear BK111
        clear HB
        have BK103 := n0_
        have BK104 := n1_
        have BK111 := n2_
        have HB := n3_
        clear n0_ n1_ n2_ n3_
        refine start_ (n := 12) (S := fun w' => w'.cell? ⟨gb103, 0, none⟩ = some (.int .i64 a0_0) ∧ w'.cell? ⟨gb103, 1, none⟩ = some (.int .i64 a0_1) ∧ w'.cell? ⟨gb103, 2, none⟩ = some (.int .i64 a0_2) ∧ w'.cell? ⟨gb103, 3, none⟩ = some (.int .i64 a0_3) ∧ w'.cell? ⟨gb103, 4, none⟩ = some (.int .i64 a0_4) ∧ w'.cell? ⟨gb103, 5, none⟩ = some (.int .i64 a0_5) ∧ w'.cell? ⟨gb103, 6, none⟩ = some (.bool a0_6) ∧ w'.cell? ⟨gb111, 0, none⟩ = some (.int .i64 (wrap64 ((wrap64 (2 * t112)) + t113))) ∧ w'.cell? ⟨gb111, 1, none⟩ = some (.int .i64 0) ∧ w'.cell? ⟨gb111, 2, none⟩ = some (.int .i64 0) ∧ w'.cell? ⟨gb111, 3, none⟩ = some (.int .i64 0) ∧ w'.cell? ⟨gb111, 4, none⟩ = some (.int .i64 0) ∧ w'.cell? ⟨gb111, 5, none⟩ = some (.int .i64 0) ∧ w'.cell? ⟨gb111, 6, none⟩ = some (.int .i64 0) ∧ w'.cell? ⟨gb111, 7, none⟩ = some (.int .i64 0) ∧ w'.cell? ⟨gb111, 8, none⟩ = some (.int .i64 0) ∧ w'.cell? ⟨gb111, 9, none⟩ = some (.int .i64 0) ∧ w'.cell? ⟨gb111, 10, none⟩ = some (.int .i64 0)) (ds := [11]) #[false, false, false, false, false, false, false, false, false, false, false, false] (by kernel_rfl) rfl rfl ⟨(blk_cell BK103.out 0).trans rfl, (blk_cell BK103.out 1).trans rfl, (blk_cell BK103.out 2).trans rfl, (blk_cell BK103.out 3).trans rfl, (blk_cell BK103.out 4).trans rfl, (blk_cell BK103.out 5).trans rfl, (blk_cell BK103.out 6).trans rfl, (blk_cell BK111.out 0).trans rfl, (blk_cell BK111.out 1).trans rfl, (blk_cell BK111.out 2).trans rfl, (blk_cell BK111.out 3).trans rfl, (blk_cell BK111.out 4).trans rfl, (blk_cell BK111.out 5).trans rfl, (blk_cell BK111.out 6).trans rfl, (blk_cell BK111.out 7).trans rfl, (blk_cell BK111.out 8).trans rfl, (blk_cell BK111.out 9).trans rfl, (blk_cell BK111.out 10).trans rfl⟩ (fun hHeld => ?_); refine with_tabW size_Of.tab6 size_Of.bits6 (fun HT_ HW_ => ?_)
        generalize w56.drew = w57 at BK103 BK104 BK111 HB hHeld ⊢
        refine pure_ (i := 0) (N := some 61) (v := ?_) (a' := ?_) #[true, false, false, false, false, false, false, false, false, false, false, false] rfl rfl (any_of HT_.out (by kernel_rfl)) (fun _ _ _ h => h) (Or.inl ⟨by rfl, ?_⟩) ?_ ?_
        rotate_left
        · intro w'
          go_simp
          with_reducible rfl
        rotate_left
        · simp only [Act.put, List.setIfInBounds_toArray, List.set_cons_zero, List.set_cons_succ, i64_w, i32_w]
          rfl
        refine pure_ (i := 3) (N := some 64) (v := ?_) (a' := ?_) #[true, false, false, true, false, false, false, false, false, false, false, false] rfl rfl (any_of HT_.out (by kernel_rfl)) (fun _ _ _ h => h) (Or.inl ⟨by rfl, ?_⟩) ?_ ?_
        rotate_left
        · intro w'
          go_simp
          with_reducible rfl
        rotate_left
        · simp only [Act.put, List.setIfInBounds_toArray, List.set_cons_zero, List.set_cons_succ, i64_w, i32_w]
          rfl
        refine pure_ (i := 5) (N := some 66) (v := ?_) (a' := ?_) #[true, false, false, true, false, true, false, false, false, false, false, false] rfl rfl (any_of HT_.out (by kernel_rfl)) (fun _ _ _ h => h) (Or.inl ⟨by rfl, ?_⟩) ?_ ?_
        rotate_left
        · intro w'
          go_simp
          with_reducible rfl
        rotate_left
        · simp only [Act.put, List.setIfInBounds_toArray, List.set_cons_zero, List.set_cons_succ, i64_w, i32_w]
          rfl
        refine take_ (i := 1) (N := some 62) (v := ?_) (a' := ?_) #[true, true, false, true, false, true, false, false, false, false, false, false] rfl rfl (take_ofW HT_.out HW_.out (by kernel_rfl)) (fun _ _ _ h => h) (Or.inl ⟨by rfl, ?_⟩) hHeld ?_ ?_
        rotate_left
        · rintro w' ⟨s0, s1, s2, s3, s4, s5, s6, s7, s8, s9, s10, s11, s12, s13, s14, s15, s16, s17⟩
          go_simp
          with_reducible rfl
        rotate_left
        · simp only [Act.put, List.setIfInBounds_toArray, List.set_cons_zero, List.set_cons_succ, i64_w, i32_w]
          rfl
        refine take_ (i := 4) (N := some 65) (v := ?_) (a' := ?_) #[true, true, false, true, true, true, false, false, false, false, false, false] rfl rfl (take_ofW HT_.out HW_.out (by kernel_rfl)) (fun _ _ _ h => h) (Or.inl ⟨by rfl, ?_⟩) hHeld ?_ ?_
        rotate_left
        · rintro w' ⟨s0, s1, s2, s3, s4, s5, s6, s7, s8, s9, s10, s11, s12, s13, s14, s15, s16, s17⟩
          go_simp
          with_reducible rfl
        rotate_left
        · simp only [Act.put, List.setIfInBounds_toArray, List.set_cons_zero, List.set_cons_succ, i64_w, i32_w]
          rfl
        refine take_ (i := 6) (N := some 67) (v := ?_) (a' := ?_) #[true, true, false, true, true, true, true, false, false, false, false, false] rfl rfl (take_ofW HT_.out HW_.out (by kernel_rfl)) (fun _ _ _ h => h) (Or.inl ⟨by rfl, ?_⟩) hHeld ?_ ?_
        rotate_left
        · rintro w' ⟨s0, s1, s2, s3, s4, s5, s6, s7, s8, s9, s10, s11, s12, s13, s14, s15, s16, s17⟩
          go_simp
          with_reducible rfl
        rotate_left
        · simp only [Act.put, List.setIfInBounds_toArray, List.set_cons_zero, List.set_cons_succ, i64_w, i32_w]
          rfl
        refine pure_ (i := 7) (N := some 68) (v := ?_) (a' := ?_) #[true, true, false, true, true, true, true, true, false, false, false, false] rfl rfl (any_of HT_.out (by kernel_rfl)) (fun _ _ _ h => h) (Or.inl ⟨by rfl, ?_⟩) ?_ ?_
        rotate_left
        · intro w'
          go_simp
          with_reducible rfl
        rotate_left
        · simp only [Act.put, List.setIfInBounds_toArray, List.set_cons_zero, List.set_cons_succ, i64_w, i32_w]
          rfl
        refine one_ (i := 2) (N := some 63) #[true, true, true, true, true, true, true, true, false, false, false, false] rfl rfl (one_of HT_.out (by kernel_rfl)) (by decide) (fun K hK => ?_)
        refine goes_ Try.func22 (by kernel_rfl) rfl #[.int .i64 a0_4] (by rfl) rfl rfl (by (try simp only [List.map_toArray, List.map_cons, List.map_nil]); first | done | rfl | (simp only [List.length_drop, List.length_take]; rfl)) ?_
        with_reducible refine (size_length.calls kj1 a0_4 t114 _ A34.out).mono ?_
        rintro e w58 ⟨rfl, hb⟩
        refine ⟨_, rfl, ?_⟩
        have n0_ := Aside0.mk (blk_below (g := gb103) (o := .cells #[.int .i64 a0_0, .int .i64 a0_1, .int .i64 a0_2, .int .i64 a0_3, .int .i64 a0_4, .int .i64 a0_5, .bool a0_6] 29 (0, 0)) (by (with_reducible repeat (first | refine blk_drewN ?_ _ | refine blk_drew ?_ | refine blk_alloc ?_ _)); exact BK103.out) hb)
        have n1_ := Aside0.mk (blk_below (g := gb104) (o := .cells #[.int .i64 0, .int .i64 0, .int .i64 0, .int .i64 0, .int .i64 0, .int .i64 0, .int .i64 0, .int .i64 0, .int .i64 0, .int .i64 0, .int .i64 0] 24 (0, 0)) (by (with_reducible repeat (first | refine blk_drewN ?_ _ | refine blk_drew ?_ | refine blk_alloc ?_ _)); exact BK104.out) hb)
        have n2_ := Aside0.mk (blk_below (g := gb111) (o := .cells #[.int .i64 (wrap64 ((wrap64 (2 * t112)) + t113)), .int .i64 0, .int .i64 0, .int .i64 0, .int .i64 0, .int .i64 0, .int .i64 0, .int .i64 0, .int .i64 0, .int .i64 0, .int .i64 0] 24 (0, 0)) (by (with_reducible repeat (first | refine blk_drewN ?_ _ | refine blk_drew ?_ | refine blk_alloc ?_ _)); exact BK111.out) hb)
        have n3_ := Aside0.mk (below_step (by repeat (first | (with_reducible first | exact HB.out | apply below_alloc | apply pw_below_drewN | apply below_drew1 | refine below_set ?_ GE103.out | refine below_set ?_ GE104.out | refine below_set ?_ GE111.out) | exact HB.out)) hb)
        clear BK103
        clear BK104
        clear BK111
        clear HB
        have BK103 := n0_
        have BK104 := n1_
        have BK111 := n2_
        have HB := n3_
        clear n0_ n1_ n2_ n3_
        (try clear hb)
        (try clear hb2)
        (try clear hk)
        (try clear hi)
        refine hK.out _ _ ⟨(blk_cell BK103.out 0).trans rfl, (blk_cell BK103.out 1).trans rfl, (blk_cell BK103.out 2).trans rfl, (blk_cell BK103.out 3).trans rfl, (blk_cell BK103.out 4).trans rfl, (blk_cell BK103.out 5).trans rfl, (blk_cell BK103.out 6).trans rfl, (blk_cell BK111.out 0).trans rfl, (blk_cell BK111.out 1).trans rfl, (blk_cell BK111.out 2).trans rfl, (blk_cell BK111.out 3).trans rfl, (blk_cell BK111.out 4).trans rfl, (blk_cell BK111.out 5).trans rfl, (blk_cell BK111.out 6).trans rfl, (blk_cell BK111.out 7).trans rfl, (blk_cell BK111.out 8).trans rfl, (blk_cell BK111.out 9).trans rfl, (blk_cell BK111.out 10).trans rfl⟩ (fun hHeld => ?_)
        clear hK K
        refine norm_ (a' := ?_) ?_ ?_
        rotate_left
        · show Act.put _ (some 63) _ = _
          simp only [Act.put, List.setIfInBounds_toArray, List.set_cons_zero, List.set_cons_succ, i64_w, i32_w]
          rfl
        refine pure_ (i := 8) (N := some 69) (v := ?_) (a' := ?_) #[true, true, true, true, true, true, true, true, true, false, false, false] rfl rfl (any_of HT_.out (by kernel_rfl)) (fun _ _ _ h => h) (Or.inl ⟨by rfl, ?_⟩) ?_ ?_
        rotate_left
        · intro w'
          go_simp
          with_reducible rfl
        rotate_left
        · simp only [Act.put, List.setIfInBounds_toArray, List.set_cons_zero, List.set_cons_succ, i64_w, i32_w]
          rfl
        refine one_ (i := 9) (N := some 70) #[true, true, true, true, true, true, true, true, true, true, false, false] rfl rfl (one_of HT_.out (by kernel_rfl)) (by decide) (fun K hK => ?_)
        refine goes_ Try.func23 (by kernel_rfl) rfl #[.int .i64 (wrap64 (t114 + (wrap64 (a0_4 * (wrap64 ((wrap64 (2 * t112)) + t113))))))] (by rfl) rfl rfl (by (try simp only [List.map_toArray, List.map_cons, List.map_nil]); first | done | rfl | (simp only [List.length_drop, List.length_take]; rfl)) ?_
        with_reducible refine (leaf_Pages.calls (wrap64 (t114 + (wrap64 (a0_4 * (wrap64 ((wrap64 (2 * t112)) + t113)))))) t115 _ A35.out).mono ?_
        rintro e w59 ⟨rfl, hb⟩
        refine ⟨_, rfl, ?_⟩
        have n0_ := Aside0.mk (blk_below (g := gb103) (o := .cells #[.int .i64 a0_0, .int .i64 a0_1, .int .i64 a0_2, .int .i64 a0_3, .int .i64 a0_4, .int .i64 a0_5, .bool a0_6] 29 (0, 0)) (by (with_reducible repeat (first | refine blk_drewN ?_ _ | refine blk_drew ?_ | refine blk_alloc ?_ _)); exact BK103.out) hb)
        have n1_ := Aside0.mk (blk_below (g := gb104) (o := .cells #[.int .i64 0, .int .i64 0, .int .i64 0, .int .i64 0, .int .i64 0, .int .i64 0, .int .i64 0, .int .i64 0, .int .i64 0, .int .i64 0, .int .i64 0] 24 (0, 0)) (by (with_reducible repeat (first | refine blk_drewN ?_ _ | refine blk_drew ?_ | refine blk_alloc ?_ _)); exact BK104.out) hb)
        have n2_ := Aside0.mk (blk_below (g := gb111) (o := .cells #[.int .i64 (wrap64 ((wrap64 (2 * t112)) + t113)), .int .i64 0, .int .i64 0, .int .i64 0, .int .i64 0, .int .i64 0, .int .i64 0, .int .i64 0, .int .i64 0, .int .i64 0, .int .i64 0] 24 (0, 0)) (by (with_reducible repeat (first | refine blk_drewN ?_ _ | refine blk_drew ?_ | refine blk_alloc ?_ _)); exact BK111.out) hb)
        have n3_ := Aside0.mk (below_step (by repeat (first | (with_reducible first | exact HB.out | apply below_alloc | apply pw_below_drewN | apply below_drew1 | refine below_set ?_ GE103.out | refine below_set ?_ GE104.out | refine below_set ?_ GE111.out) | exact HB.out)) hb)
        clear BK103
        clear BK104
        clear BK111
        clear HB
        have BK103 := n0_
        have BK104 := n1_
        have BK111 := n2_
        have HB := n3_
        clear n0_ n1_ n2_ n3_
        (try clear hb)
        (try clear hb2)
        (try clear hk)
        (try clear hi)
        refine hK.out _ _ ⟨(blk_cell BK103.out 0).trans rfl, (blk_cell BK103.out 1).trans rfl, (blk_cell BK103.out 2).trans rfl, (blk_cell BK103.out 3).trans rfl, (blk_cell BK103.out 4).trans rfl, (blk_cell BK103.out 5).trans rfl, (blk_cell BK103.out 6).trans rfl, (blk_cell BK111.out 0).trans rfl, (blk_cell BK111.out 1).trans rfl, (blk_cell BK111.out 2).trans rfl, (blk_cell BK111.out 3).trans rfl, (blk_cell BK111.out 4).trans rfl, (blk_cell BK111.out 5).trans rfl, (blk_cell BK111.out 6).trans rfl, (blk_cell BK111.out 7).trans rfl, (blk_cell BK111.out 8).trans rfl, (blk_cell BK111.out 9).trans rfl, (blk_cell BK111.out 10).trans rfl⟩ (fun hHeld => ?_)
        clear hK K
        refine norm_ (a' := ?_) ?_ ?_
        rotate_left
        · show Act.put _ (some 70) _ = _
          simp only [Act.put, List.setIfInBounds_toArray, List.set_cons_zero, List.set_cons_succ, i64_w, i32_w]
          rfl
        refine pure_ (i := 10) (N := some 71) (v := ?_) (a' := ?_) #[true, true, true, true, true, true, true, true, true, true, true, false] rfl rfl (any_of HT_.out (by kernel_rfl)) (fun _ _ _ h => h) (Or.inl ⟨by rfl, ?_⟩) ?_ ?_
        rotate_left
        · intro w'
          go_simp
          with_reducible rfl
        rotate_left
        · simp only [Act.put, List.setIfInBounds_toArray, List.set_cons_zero, List.set_cons_succ, i64_w, i32_w]
          rfl
        refine last_ (i := 11) (N := none) #[true, true, true, true, true, true, true, true, true, true, true, true] rfl rfl (one_of HT_.out (by kernel_rfl)) (by decide) (fun K hK => ?_)
        have hs60 : w59.cell? ⟨gb111, 1, none⟩ = some (.int .i64 0) := (blk_cell BK111.out 1).trans rfl
        have hfs60 := blk_frozen BK111.out 1
        have hns60_0 := NB103_111.out
        have hns60_1 := NB104_111.out
        have hms60_0 := NB111_103.out
        have hms60_1 := NB111_104.out
        refine skip_ (w1 := ?_) (by rfl) rfl ?_ ?_
        rotate_left
        · go_simp
          rfl
        refine hK.out _ _ ?_
        clear hK K
        refine done_ (done_of HT_.out (by kernel_rfl)) ?_
        try go_wp2
        have n0_ : Aside0 ((w59.setCell ⟨gb111, 1, none⟩ (.int .i64 t115)).heap[gb103]? = some (.cells #[.int .i64 a0_0, .int .i64 a0_1, .int .i64 a0_2, .int .i64 a0_3, .int .i64 a0_4, .int .i64 a0_5, .bool a0_6] 29 (0, 0))) := ⟨by (with_reducible repeat (first | refine blk_drewN ?_ _ | refine blk_drew ?_ | refine blk_alloc ?_ _)); refine blk_far ?_ NB103_111.out _; (with_reducible repeat (first | refine blk_drewN ?_ _ | refine blk_drew ?_ | refine blk_alloc ?_ _)); exact BK103.out⟩
        have n1_ : Aside0 ((w59.setCell ⟨gb111, 1, none⟩ (.int .i64 t115)).heap[gb104]? = some (.cells #[.int .i64 0, .int .i64 0, .int .i64 0, .int .i64 0, .int .i64 0, .int .i64 0, .int .i64 0, .int .i64 0, .int .i64 0, .int .i64 0, .int .i64 0] 24 (0, 0))) := ⟨by (with_reducible repeat (first | refine blk_drewN ?_ _ | refine blk_drew ?_ | refine blk_alloc ?_ _)); refine blk_far ?_ NB104_111.out _; (with_reducible repeat (first | refine blk_drewN ?_ _ | refine blk_drew ?_ | refine blk_alloc ?_ _)); exact BK104.out⟩
        have n2_ : Aside0 ((w59.setCell ⟨gb111, 1, none⟩ (.int .i64 t115)).heap[gb111]? = some (.cells #[.int .i64 (wrap64 ((wrap64 (2 * t112)) + t113)), .int .i64 t115, .int .i64 0, .int .i64 0, .int .i64 0, .int .i64 0, .int .i64 0, .int .i64 0, .int .i64 0, .int .i64 0, .int .i64 0] 24 (0, 0))) := ⟨by (with_reducible repeat (first | refine blk_drewN ?_ _ | refine blk_drew ?_ | refine blk_alloc ?_ _)); refine blk_put (cs := #[.int .i64 (wrap64 ((wrap64 (2 * t112)) + t113)), .int .i64 0, .int .i64 0, .int .i64 0, .int .i64 0, .int .i64 0, .int .i64 0, .int .i64 0, .int .i64 0, .int .i64 0, .int .i64 0]) ?_ 1 _ rfl; (with_reducible repeat (first | refine blk_drewN ?_ _ | refine blk_drew ?_ | refine blk_alloc ?_ _)); exact BK111.out⟩
        have n3_ : Aside0 (Below w.heap.size w (w59.setCell ⟨gb111, 1, none⟩ (.int .i64 t115))) := ⟨by repeat (first | (with_reducible first | exact HB.out | apply below_alloc | apply pw_below_drewN | apply below_drew1 | refine below_set ?_ GE103.out | refine below_set ?_ GE104.out | refine below_set ?_ GE111.out) | exact HB.out)⟩
        (try clear BK103)
        (try clear BK104)
        (try clear BK111)
        (try clear HB)
        generalize (w59.setCell ⟨gb111, 1, none⟩ (.int .i64 t115)) = w61 at n0_ n1_ n2_ n3_ ⊢
        have BK103 := n0_
        have BK104 := n1_
        have BK111 := n2_
        have HB := n3_
        clear n0_ n1_ n2_ n3_
        have n0_ := Aside0.mk (blk_drew BK103.out)
        have n1_ := Aside0.mk (blk_drew BK104.out)
        have n2_ := Aside0.mk (blk_drew BK111.out)
        have n3_ := Aside0.mk (below_drew1 HB.out)
        clear BK103
        clear BK104
        clear BK111
        clear HB
        have BK103 := n0_
        have BK104 := n1_
        have BK111 := n2_
        have HB := n3_
        clear n0_ n1_ n2_ n3_
        refine start_ (n := 14) (S := fun w' => w'.cell? ⟨gb103, 0, none⟩ = some (.int .i64 a0_0) ∧ w'.cell? ⟨gb103, 1, none⟩ = some (.int .i64 a0_1) ∧ w'.cell? ⟨gb103, 2, none⟩ = some (.int .i64 a0_2) ∧ w'.cell? ⟨gb103, 3, none⟩ = some (.int .i64 a0_3) ∧ w'.cell? ⟨gb103, 4, none⟩ = some (.int .i64 a0_4) ∧ w'.cell? ⟨gb103, 5, none⟩ = some (.int .i64 a0_5) ∧ w'.cell? ⟨gb103, 6, none⟩ = some (.bool a0_6)) (ds := []) #[false, false, false, false, false, false, false, false, false, false, false, false, false, false] (by kernel_rfl) rfl rfl ⟨(blk_cell BK103.out 0).trans rfl, (blk_cell BK103.out 1).trans rfl, (blk_cell BK103.out 2).trans rfl, (blk_cell BK103.out 3).trans rfl, (blk_cell BK103.out 4).trans rfl, (blk_cell BK103.out 5).trans rfl, (blk_cell BK103.out 6).trans rfl⟩ (fun hHeld => ?_); refine with_tabW size_Of.tab7 size_Of.bits7 (fun HT_ HW_ => ?_)
        generalize w61.drew = w62 at BK103 BK104 BK111 HB hHeld ⊢
        refine pure_ (i := 0) (N := some 72) (v := ?_) (a' := ?_) #[true, false, false, false, false, false, false, false, false, false, false, false, false, false] rfl rfl (any_of HT_.out (by kernel_rfl)) (fun _ _ _ h => h) (Or.inl ⟨by rfl, ?_⟩) ?_ ?_
        rotate_left
        · intro w'
          go_simp
          with_reducible rfl
        rotate_left
        · simp only [Act.put, List.setIfInBounds_toArray, List.set_cons_zero, List.set_cons_succ, i64_w, i32_w]
          rfl
        refine pure_ (i := 3) (N := some 75) (v := ?_) (a' := ?_) #[true, false, false, true, false, false, false, false, false, false, false, false, false, false] rfl rfl (any_of HT_.out (by kernel_rfl)) (fun _ _ _ h => h) (Or.inl ⟨by rfl, ?_⟩) ?_ ?_
        rotate_left
        · intro w'
          go_simp
          with_reducible rfl
        rotate_left
        · simp only [Act.put, List.setIfInBounds_toArray, List.set_cons_zero, List.set_cons_succ, i64_w, i32_w]
          rfl
        refine pure_ (i := 5) (N := some 77) (v := ?_) (a' := ?_) #[true, false, false, true, false, true, false, false, false, false, false, false, false, false] rfl rfl (any_of HT_.out (by kernel_rfl)) (fun _ _ _ h => h) (Or.inl ⟨by rfl, ?_⟩) ?_ ?_
        rotate_left
        · intro w'
          go_simp
          with_reducible rfl
        rotate_left
        · simp only [Act.put, List.setIfInBounds_toArray, List.set_cons_zero, List.set_cons_succ, i64_w, i32_w]
          rfl
        refine pure_ (i := 8) (N := some 80) (v := ?_) (a' := ?_) #[true, false, false, true, false, true, false, false, true, false, false, false, false, false] rfl rfl (any_of HT_.out (by kernel_rfl)) (fun _ _ _ h => h) (Or.inl ⟨by rfl, ?_⟩) ?_ ?_
        rotate_left
        · intro w'
          go_simp
          with_reducible rfl
        rotate_left
        · simp only [Act.put, List.setIfInBounds_toArray, List.set_cons_zero, List.set_cons_succ, i64_w, i32_w]
          rfl
        refine take_ (i := 1) (N := some 73) (v := ?_) (a' := ?_) #[true, true, false, true, false, true, false, false, true, false, false, false, false, false] rfl rfl (take_ofW HT_.out HW_.out (by kernel_rfl)) (fun _ _ _ h => h) (Or.inl ⟨by rfl, ?_⟩) hHeld ?_ ?_
        rotate_left
        · rintro w' ⟨s0, s1, s2, s3, s4, s5, s6⟩
          go_simp
          with_reducible rfl
        rotate_left
        · simp only [Act.put, List.setIfInBounds_toArray, List.set_cons_zero, List.set_cons_succ, i64_w, i32_w]
          rfl
        refine pure_ (i := 2) (N := some 74) (v := ?_) (a' := ?_) #[true, true, true, true, false, true, false, false, true, false, false, false, false, false] rfl rfl (any_of HT_.out (by kernel_rfl)) (fun _ _ _ h => h) (Or.inl ⟨by rfl, ?_⟩) ?_ ?_
        rotate_left
        · intro w'
          go_simp
          with_reducible rfl
        rotate_left
        · simp only [Act.put, List.setIfInBounds_toArray, List.set_cons_zero, List.set_cons_succ, i64_w, i32_w]
          rfl
        refine take_ (i := 4) (N := some 76) (v := ?_) (a' := ?_) #[true, true, true, true, true, true, false, false, true, false, false, false, false, false] rfl rfl (take_ofW HT_.out HW_.out (by kernel_rfl)) (fun _ _ _ h => h) (Or.inl ⟨by rfl, ?_⟩) hHeld ?_ ?_
        rotate_left
        · rintro w' ⟨s0, s1, s2, s3, s4, s5, s6⟩
          go_simp
          with_reducible rfl
        rotate_left
        · simp only [Act.put, List.setIfInBounds_toArray, List.set_cons_zero, List.set_cons_succ, i64_w, i32_w]
          rfl
        refine take_ (i := 6) (N := some 78) (v := ?_) (a' := ?_) #[true, true, true, true, true, true, true, false, true, false, false, false, false, false] rfl rfl (take_ofW HT_.out HW_.out (by kernel_rfl)) (fun _ _ _ h => h) (Or.inl ⟨by rfl, ?_⟩) hHeld ?_ ?_
        rotate_left
        · rintro w' ⟨s0, s1, s2, s3, s4, s5, s6⟩
          go_simp
          with_reducible rfl
        rotate_left
        · simp only [Act.put, List.setIfInBounds_toArray, List.set_cons_zero, List.set_cons_succ, i64_w, i32_w]
          rfl
        refine take_ (i := 9) (N := some 81) (v := ?_) (a' := ?_) #[true, true, true, true, true, true, true, false, true, true, false, false, false, false] rfl rfl (take_ofW HT_.out HW_.out (by kernel_rfl)) (fun _ _ _ h => h) (Or.inl ⟨by rfl, ?_⟩) hHeld ?_ ?_
        rotate_left
        · rintro w' ⟨s0, s1, s2, s3, s4, s5, s6⟩
          go_simp
          with_reducible rfl
        rotate_left
        · simp only [Act.put, List.setIfInBounds_toArray, List.set_cons_zero, List.set_cons_succ, i64_w, i32_w]
          rfl
        refine one_ (i := 7) (N := some 79) #[true, true, true, true, true, true, true, true, true, true, false, false, false, false] rfl rfl (one_of HT_.out (by kernel_rfl)) (by decide) (fun K hK => ?_)
        refine goes_ Try.func24 (by kernel_rfl) rfl #[.int .i64 a0_2, .int .i64 a0_1] (by rfl) rfl rfl (by (try simp only [List.map_toArray, List.map_cons, List.map_nil]); first | done | rfl | (simp only [List.length_drop, List.length_take]; rfl)) ?_
        with_reducible refine (size_up.calls a0_2 a0_1 t116 _ A36.out).mono ?_
        rintro e w' ⟨rfl, ⟨nd, rfl⟩⟩
        refine ⟨_, rfl, ?_⟩
        refine hK.out _ _ ⟨(blk_cell BK103.out 0).trans rfl, (blk_cell BK103.out 1).trans rfl, (blk_cell BK103.out 2).trans rfl, (blk_cell BK103.out 3).trans rfl, (blk_cell BK103.out 4).trans rfl, (blk_cell BK103.out 5).trans rfl, (blk_cell BK103.out 6).trans rfl⟩ (fun hHeld => ?_)
        clear hK K
        refine norm_ (a' := ?_) ?_ ?_
        rotate_left
        · show Act.put _ (some 79) _ = _
          simp only [Act.put, List.setIfInBounds_toArray, List.set_cons_zero, List.set_cons_succ, i64_w, i32_w]
          rfl
        refine pure_ (i := 10) (N := some 82) (v := ?_) (a' := ?_) #[true, true, true, true, true, true, true, true, true, true, true, false, false, false] rfl rfl (any_of HT_.out (by kernel_rfl)) (fun _ _ _ h => h) (Or.inl ⟨by rfl, ?_⟩) ?_ ?_
        rotate_left
        · intro w'
          go_simp
          with_reducible rfl
        rotate_left
        · simp only [Act.put, List.setIfInBounds_toArray, List.set_cons_zero, List.set_cons_succ, i64_w, i32_w]
          rfl
        refine pure_ (i := 11) (N := some 83) (v := ?_) (a' := ?_) #[true, true, true, true, true, true, true, true, true, true, true, true, false, false] rfl rfl (any_of HT_.out (by kernel_rfl)) (fun _ _ _ h => h) (Or.inl ⟨by rfl, ?_⟩) ?_ ?_
        rotate_left
        · intro w'
          go_simp
          with_reducible rfl
        rotate_left
        · simp only [Act.put, List.setIfInBounds_toArray, List.set_cons_zero, List.set_cons_succ, i64_w, i32_w]
          rfl
        refine pure_ (i := 12) (N := some 84) (v := ?_) (a' := ?_) #[true, true, true, true, true, true, true, true, true, true, true, true, true, false] rfl rfl (any_of HT_.out (by kernel_rfl)) (fun _ _ _ h => h) (Or.inl ⟨by rfl, ?_⟩) ?_ ?_
        rotate_left
        · intro w'
          go_simp
          with_reducible rfl
        rotate_left
        · simp only [Act.put, List.setIfInBounds_toArray, List.set_cons_zero, List.set_cons_succ, i64_w, i32_w]
          rfl
        refine one_ (i := 13) (N := none) #[true, true, true, true, true, true, true, true, true, true, true, true, true, true] rfl rfl (one_of HT_.out (by kernel_rfl)) (by decide) (fun K hK => ?_)
        have hs63 : w62.cell? ⟨gb111, 2, none⟩ = some (.int .i64 0) := (blk_cell BK111.out 2).trans rfl
        have hfs63 := blk_frozen BK111.out 2
        have hns63_0 := NB103_111.out
        have hns63_1 := NB104_111.out
        have hms63_0 := NB111_103.out
        have hms63_1 := NB111_104.out
        refine skip_ (w1 := ?_) (by rfl) rfl ?_ ?_
        rotate_left
        · go_simp
          rfl
        refine hK.out _ _ ⟨((cell_far (p := ⟨gb111, _, none⟩) NB103_111.out _).trans (hHeld.1)), ((cell_far (p := ⟨gb111, _, none⟩) NB103_111.out _).trans (hHeld.2.1)), ((cell_far (p := ⟨gb111, _, none⟩) NB103_111.out _).trans (hHeld.2.2.1)), ((cell_far (p := ⟨gb111, _, none⟩) NB103_111.out _).trans (hHeld.2.2.2.1)), ((cell_far (p := ⟨gb111, _, none⟩) NB103_111.out _).trans (hHeld.2.2.2.2.1)), ((cell_far (p := ⟨gb111, _, none⟩) NB103_111.out _).trans (hHeld.2.2.2.2.2.1)), ((cell_far (p := ⟨gb111, _, none⟩) NB103_111.out _).trans (hHeld.2.2.2.2.2.2))⟩ (fun hHeld => ?_)
        clear hK K
        refine done_ (done_of HT_.out (by kernel_rfl)) ?_
        try go_wp2
        have n0_ : Aside0 ((w62.setCell ⟨gb111, 2, none⟩ (.int .i64 (wrap64 ((wrap64 (4 + a0_3)) + (ji37))))).heap[gb103]? = some (.cells #[.int .i64 a0_0, .int .i64 a0_1, .int .i64 a0_2, .int .i64 a0_3, .int .i64 a0_4, .int .i64 a0_5, .bool a0_6] 29 (0, 0))) := ⟨by (with_reducible repeat (first | refine blk_drewN ?_ _ | refine blk_drew ?_ | refine blk_alloc ?_ _)); refine blk_far ?_ NB103_111.out _; (with_reducible repeat (first | refine blk_drewN ?_ _ | refine blk_drew ?_ | refine blk_alloc ?_ _)); exact BK103.out⟩
        have n1_ : Aside0 ((w62.setCell ⟨gb111, 2, none⟩ (.int .i64 (wrap64 ((wrap64 (4 + a0_3)) + (ji37))))).heap[gb104]? = some (.cells #[.int .i64 0, .int .i64 0, .int .i64 0, .int .i64 0, .int .i64 0, .int .i64 0, .int .i64 0, .int .i64 0, .int .i64 0, .int .i64 0, .int .i64 0] 24 (0, 0))) := ⟨by (with_reducible repeat (first | refine blk_drewN ?_ _ | refine blk_drew ?_ | refine blk_alloc ?_ _)); refine blk_far ?_ NB104_111.out _; (with_reducible repeat (first | refine blk_drewN ?_ _ | refine blk_drew ?_ | refine blk_alloc ?_ _)); exact BK104.out⟩
        have n2_ : Aside0 ((w62.setCell ⟨gb111, 2, none⟩ (.int .i64 (wrap64 ((wrap64 (4 + a0_3)) + (ji37))))).heap[gb111]? = some (.cells #[.int .i64 (wrap64 ((wrap64 (2 * t112)) + t113)), .int .i64 t115, .int .i64 (wrap64 ((wrap64 (4 + a0_3)) + (ji37))), .int .i64 0, .int .i64 0, .int .i64 0, .int .i64 0, .int .i64 0, .int .i64 0, .int .i64 0, .int .i64 0] 24 (0, 0))) := ⟨by (with_reducible repeat (first | refine blk_drewN ?_ _ | refine blk_drew ?_ | refine blk_alloc ?_ _)); refine blk_put (cs := #[.int .i64 (wrap64 ((wrap64 (2 * t112)) + t113)), .int .i64 t115, .int .i64 0, .int .i64 0, .int .i64 0, .int .i64 0, .int .i64 0, .int .i64 0, .int .i64 0, .int .i64 0, .int .i64 0]) ?_ 2 _ rfl; (with_reducible repeat (first | refine blk_drewN ?_ _ | refine blk_drew ?_ | refine blk_alloc ?_ _)); exact BK111.out⟩
        have n3_ : Aside0 (Below w.heap.size w (w62.setCell ⟨gb111, 2, none⟩ (.int .i64 (wrap64 ((wrap64 (4 + a0_3)) + (ji37)))))) := ⟨by repeat (first | (with_reducible first | exact HB.out | apply below_alloc | apply pw_below_drewN | apply below_drew1 | refine below_set ?_ GE103.out | refine below_set ?_ GE104.out | refine below_set ?_ GE111.out) | exact HB.out)⟩
        (try clear BK103)
        (try clear BK104)
        (try clear BK111)
        (try clear HB)
        generalize (w62.setCell ⟨gb111, 2, none⟩ (.int .i64 (wrap64 ((wrap64 (4 + a0_3)) + (ji37))))) = w64 at n0_ n1_ n2_ n3_ ⊢
        have BK103 := n0_
        have BK104 := n1_
        have BK111 := n2_
        have HB := n3_
        clear n0_ n1_ n2_ n3_
        (try (rw [drewN_self w64]; generalize hq_ : World.drewN w64 _ = w64; have n0_ : Aside0 (w64.heap[gb103]? = some (.cells #[.int .i64 a0_0, .int .i64 a0_1, .int .i64 a0_2, .int .i64 a0_3, .int .i64 a0_4, .int .i64 a0_5, .bool a0_6] 29 (0, 0))) := ⟨by rw [← hq_]; exact (by (with_reducible repeat (first | refine blk_drewN ?_ _ | refine blk_drew ?_ | refine blk_alloc ?_ _)); exact BK103.out)⟩; have n1_ : Aside0 (w64.heap[gb104]? = some (.cells #[.int .i64 0, .int .i64 0, .int .i64 0, .int .i64 0, .int .i64 0, .int .i64 0, .int .i64 0, .int .i64 0, .int .i64 0, .int .i64 0, .int .i64 0] 24 (0, 0))) := ⟨by rw [← hq_]; exact (by (with_reducible repeat (first | refine blk_drewN ?_ _ | refine blk_drew ?_ | refine blk_alloc ?_ _)); exact BK104.out)⟩; have n2_ : Aside0 (w64.heap[gb111]? = some (.cells #[.int .i64 (wrap64 ((wrap64 (2 * t112)) + t113)), .int .i64 t115, .int .i64 (wrap64 ((wrap64 (4 + a0_3)) + (ji37))), .int .i64 0, .int .i64 0, .int .i64 0, .int .i64 0, .int .i64 0, .int .i64 0, .int .i64 0, .int .i64 0] 24 (0, 0))) := ⟨by rw [← hq_]; exact (by (with_reducible repeat (first | refine blk_drewN ?_ _ | refine blk_drew ?_ | refine blk_alloc ?_ _)); exact BK111.out)⟩; have n3_ : Aside0 (Below w.heap.size w w64) := ⟨by rw [← hq_]; exact (by repeat (first | (with_reducible first | exact HB.out | apply below_alloc | apply pw_below_drewN | apply below_drew1 | refine below_set ?_ GE103.out | refine below_set ?_ GE104.out | refine below_set ?_ GE111.out) | exact HB.out))⟩; clear BK103 BK104 BK111 HB hq_; have BK103 := n0_; have BK104 := n1_; have BK111 := n2_; have HB := n3_; clear n0_ n1_ n2_ n3_))
        have n0_ := Aside0.mk (blk_drew BK103.out)
        have n1_ := Aside0.mk (blk_drew BK104.out)
        have n2_ := Aside0.mk (blk_drew BK111.out)
        have n3_ := Aside0.mk (below_drew1 HB.out)
        clear BK103
        clear BK104
        clear BK111
        clear HB
        have BK103 := n0_
        have BK104 := n1_
        have BK111 := n2_
        have HB := n3_
        clear n0_ n1_ n2_ n3_
        refine start_ (n := 16) (S := fun w' => w'.cell? ⟨gb103, 0, none⟩ = some (.int .i64 a0_0) ∧ w'.cell? ⟨gb103, 1, none⟩ = some (.int .i64 a0_1) ∧ w'.cell? ⟨gb103, 2, none⟩ = some (.int .i64 a0_2) ∧ w'.cell? ⟨gb103, 3, none⟩ = some (.int .i64 a0_3) ∧ w'.cell? ⟨gb103, 4, none⟩ = some (.int .i64 a0_4) ∧ w'.cell? ⟨gb103, 5, none⟩ = some (.int .i64 a0_5) ∧ w'.cell? ⟨gb103, 6, none⟩ = some (.bool a0_6)) (ds := []) #[false, false, false, false, false, false, false, false, false, false, false, false, false, false, false, false] (by kernel_rfl) rfl rfl ⟨(blk_cell BK103.out 0).trans rfl, (blk_cell BK103.out 1).trans rfl, (blk_cell BK103.out 2).trans rfl, (blk_cell BK103.out 3).trans rfl, (blk_cell BK103.out 4).trans rfl, (blk_cell BK103.out 5).trans rfl, (blk_cell BK103.out 6).trans rfl⟩ (fun hHeld => ?_); refine with_tabW size_Of.tab8 size_Of.bits8 (fun HT_ HW_ => ?_)
        generalize w64.drew = w65 at BK103 BK104 BK111 HB hHeld ⊢
        refine pure_ (i := 0) (N := some 85) (v := ?_) (a' := ?_) #[true, false, false, false, false, false, false, false, false, false, false, false, false, false, false, false] rfl rfl (any_of HT_.out (by kernel_rfl)) (fun _ _ _ h => h) (Or.inl ⟨by rfl, ?_⟩) ?_ ?_
        rotate_left
        · intro w'
          go_simp
          with_reducible rfl
        rotate_left
        · simp only [Act.put, List.setIfInBounds_toArray, List.set_cons_zero, List.set_cons_succ, i64_w, i32_w]
          rfl
        refine pure_ (i := 5) (N := some 90) (v := ?_) (a' := ?_) #[true, false, false, false, false, true, false, false, false, false, false, false, false, false, false, false] rfl rfl (any_of HT_.out (by kernel_rfl)) (fun _ _ _ h => h) (Or.inl ⟨by rfl, ?_⟩) ?_ ?_
        rotate_left
        · intro w'
          go_simp
          with_reducible rfl
        rotate_left
        · simp only [Act.put, List.setIfInBounds_toArray, List.set_cons_zero, List.set_cons_succ, i64_w, i32_w]
          rfl
        refine pure_ (i := 9) (N := some 94) (v := ?_) (a' := ?_) #[true, false, false, false, false, true, false, false, false, true, false, false, false, false, false, false] rfl rfl (any_of HT_.out (by kernel_rfl)) (fun _ _ _ h => h) (Or.inl ⟨by rfl, ?_⟩) ?_ ?_
        rotate_left
        · intro w'
          go_simp
          with_reducible rfl
        rotate_left
        · simp only [Act.put, List.setIfInBounds_toArray, List.set_cons_zero, List.set_cons_succ, i64_w, i32_w]
          rfl
        refine pure_ (i := 10) (N := some 95) (v := ?_) (a' := ?_) #[true, false, false, false, false, true, false, false, false, true, true, false, false, false, false, false] rfl rfl (any_of HT_.out (by kernel_rfl)) (fun _ _ _ h => h) (Or.inl ⟨by rfl, ?_⟩) ?_ ?_
        rotate_left
        · intro w'
          go_simp
          with_reducible rfl
        rotate_left
        · simp only [Act.put, List.setIfInBounds_toArray, List.set_cons_zero, List.set_cons_succ, i64_w, i32_w]
          rfl
        refine pure_ (i := 11) (N := some 96) (v := ?_) (a' := ?_) #[true, false, false, false, false, true, false, false, false, true, true, true, false, false, false, false] rfl rfl (any_of HT_.out (by kernel_rfl)) (fun _ _ _ h => h) (Or.inl ⟨by rfl, ?_⟩) ?_ ?_
        rotate_left
        · intro w'
          go_simp
          with_reducible rfl
        rotate_left
        · simp only [Act.put, List.setIfInBounds_toArray, List.set_cons_zero, List.set_cons_succ, i64_w, i32_w]
          rfl
        refine take_ (i := 1) (N := some 86) (v := ?_) (a' := ?_) #[true, true, false, false, false, true, false, false, false, true, true, true, false, false, false, false] rfl rfl (take_ofW HT_.out HW_.out (by kernel_rfl)) (fun _ _ _ h => h) (Or.inl ⟨by rfl, ?_⟩) hHeld ?_ ?_
        rotate_left
        · rintro w' ⟨s0, s1, s2, s3, s4, s5, s6⟩
          go_simp
          with_reducible rfl
        rotate_left
        · simp only [Act.put, List.setIfInBounds_toArray, List.set_cons_zero, List.set_cons_succ, i64_w, i32_w]
          rfl
        refine pure_ (i := 2) (N := some 87) (v := ?_) (a' := ?_) #[true, true, true, false, false, true, false, false, false, true, true, true, false, false, false, false] rfl rfl (any_of HT_.out (by kernel_rfl)) (fun _ _ _ h => h) (Or.inl ⟨by rfl, ?_⟩) ?_ ?_
        rotate_left
        · intro w'
          go_simp
          with_reducible rfl
        rotate_left
        · simp only [Act.put, List.setIfInBounds_toArray, List.set_cons_zero, List.set_cons_succ, i64_w, i32_w]
          rfl
        refine pure_ (i := 3) (N := some 88) (v := ?_) (a' := ?_) #[true, true, true, true, false, true, false, false, false, true, true, true, false, false, false, false] rfl rfl (any_of HT_.out (by kernel_rfl)) (fun _ _ _ h => h) (Or.inl ⟨by rfl, ?_⟩) ?_ ?_
        rotate_left
        · intro w'
          go_simp
          with_reducible rfl
        rotate_left
        · simp only [Act.put, List.setIfInBounds_toArray, List.set_cons_zero, List.set_cons_succ, i64_w, i32_w]
          rfl
        refine take_ (i := 6) (N := some 91) (v := ?_) (a' := ?_) #[true, true, true, true, false, true, true, false, false, true, true, true, false, false, false, false] rfl rfl (take_ofW HT_.out HW_.out (by kernel_rfl)) (fun _ _ _ h => h) (Or.inl ⟨by rfl, ?_⟩) hHeld ?_ ?_
        rotate_left
        · rintro w' ⟨s0, s1, s2, s3, s4, s5, s6⟩
          go_simp
          with_reducible rfl
        rotate_left
        · simp only [Act.put, List.setIfInBounds_toArray, List.set_cons_zero, List.set_cons_succ, i64_w, i32_w]
          rfl
        refine one_ (i := 4) (N := some 89) #[true, true, true, true, true, true, true, false, false, true, true, true, false, false, false, false] rfl rfl (one_of HT_.out (by kernel_rfl)) (by decide) (fun K hK => ?_)
        refine goes_ Try.func22 (by kernel_rfl) rfl #[.int .i64 (wrap64 ((wrap64 (2 * a0_2)) + 1))] (by rfl) rfl rfl (by (try simp only [List.map_toArray, List.map_cons, List.map_nil]); first | done | rfl | (simp only [List.length_drop, List.length_take]; rfl)) ?_
        with_reducible refine (size_length.calls kj1 (wrap64 ((wrap64 (2 * a0_2)) + 1)) t117 _ A38.out).mono ?_
        rintro e w66 ⟨rfl, hb⟩
        refine ⟨_, rfl, ?_⟩
        have n0_ := Aside0.mk (blk_below (g := gb103) (o := .cells #[.int .i64 a0_0, .int .i64 a0_1, .int .i64 a0_2, .int .i64 a0_3, .int .i64 a0_4, .int .i64 a0_5, .bool a0_6] 29 (0, 0)) (by (with_reducible repeat (first | refine blk_drewN ?_ _ | refine blk_drew ?_ | refine blk_alloc ?_ _)); exact BK103.out) hb)
        have n1_ := Aside0.mk (blk_below (g := gb104) (o := .cells #[.int .i64 0, .int .i64 0, .int .i64 0, .int .i64 0, .int .i64 0, .int .i64 0, .int .i64 0, .int .i64 0, .int .i64 0, .int .i64 0, .int .i64 0] 24 (0, 0)) (by (with_reducible repeat (first | refine blk_drewN ?_ _ | refine blk_drew ?_ | refine blk_alloc ?_ _)); exact BK104.out) hb)
        have n2_ := Aside0.mk (blk_below (g := gb111) (o := .cells #[.int .i64 (wrap64 ((wrap64 (2 * t112)) + t113)), .int .i64 t115, .int .i64 (wrap64 ((wrap64 (4 + a0_3)) + (ji37))), .int .i64 0, .int .i64 0, .int .i64 0, .int .i64 0, .int .i64 0, .int .i64 0, .int .i64 0, .int .i64 0] 24 (0, 0)) (by (with_reducible repeat (first | refine blk_drewN ?_ _ | refine blk_drew ?_ | refine blk_alloc ?_ _)); exact BK111.out) hb)
        have n3_ := Aside0.mk (below_step (by repeat (first | (with_reducible first | exact HB.out | apply below_alloc | apply pw_below_drewN | apply below_drew1 | refine below_set ?_ GE103.out | refine below_set ?_ GE104.out | refine below_set ?_ GE111.out) | exact HB.out)) hb)
        clear BK103
        clear BK104
        clear BK111
        clear HB
        have BK103 := n0_
        have BK104 := n1_
        have BK111 := n2_
        have HB := n3_
        clear n0_ n1_ n2_ n3_
        (try clear hb)
        (try clear hb2)
        (try clear hk)
        (try clear hi)
        refine hK.out _ _ ⟨(blk_cell BK103.out 0).trans rfl, (blk_cell BK103.out 1).trans rfl, (blk_cell BK103.out 2).trans rfl, (blk_cell BK103.out 3).trans rfl, (blk_cell BK103.out 4).trans rfl, (blk_cell BK103.out 5).trans rfl, (blk_cell BK103.out 6).trans rfl⟩ (fun hHeld => ?_)
        clear hK K
        refine norm_ (a' := ?_) ?_ ?_
        rotate_left
        · show Act.put _ (some 89) _ = _
          simp only [Act.put, List.setIfInBounds_toArray, List.set_cons_zero, List.set_cons_succ, i64_w, i32_w]
          rfl
        refine one_ (i := 7) (N := some 92) #[true, true, true, true, true, true, true, true, false, true, true, true, false, false, false, false] rfl rfl (one_of HT_.out (by kernel_rfl)) (by decide) (fun K hK => ?_)
        refine goes_ Try.func22 (by kernel_rfl) rfl #[.int .i64 a0_2] (by rfl) rfl rfl (by (try simp only [List.map_toArray, List.map_cons, List.map_nil]); first | done | rfl | (simp only [List.length_drop, List.length_take]; rfl)) ?_
        with_reducible refine (size_length.calls kj1 a0_2 t118 _ A39.out).mono ?_
        rintro e w67 ⟨rfl, hb⟩
        refine ⟨_, rfl, ?_⟩
        have n0_ := Aside0.mk (blk_below (g := gb103) (o := .cells #[.int .i64 a0_0, .int .i64 a0_1, .int .i64 a0_2, .int .i64 a0_3, .int .i64 a0_4, .int .i64 a0_5, .bool a0_6] 29 (0, 0)) (by (with_reducible repeat (first | refine blk_drewN ?_ _ | refine blk_drew ?_ | refine blk_alloc ?_ _)); exact BK103.out) hb)
        have n1_ := Aside0.mk (blk_below (g := gb104) (o := .cells #[.int .i64 0, .int .i64 0, .int .i64 0, .int .i64 0, .int .i64 0, .int .i64 0, .int .i64 0, .int .i64 0, .int .i64 0, .int .i64 0, .int .i64 0] 24 (0, 0)) (by (with_reducible repeat (first | refine blk_drewN ?_ _ | refine blk_drew ?_ | refine blk_alloc ?_ _)); exact BK104.out) hb)
        have n2_ := Aside0.mk (blk_below (g := gb111) (o := .cells #[.int .i64 (wrap64 ((wrap64 (2 * t112)) + t113)), .int .i64 t115, .int .i64 (wrap64 ((wrap64 (4 + a0_3)) + (ji37))), .int .i64 0, .int .i64 0, .int .i64 0, .int .i64 0, .int .i64 0, .int .i64 0, .int .i64 0, .int .i64 0] 24 (0, 0)) (by (with_reducible repeat (first | refine blk_drewN ?_ _ | refine blk_drew ?_ | refine blk_alloc ?_ _)); exact BK111.out) hb)
        have n3_ := Aside0.mk (below_step (by repeat (first | (with_reducible first | exact HB.out | apply below_alloc | apply pw_below_drewN | apply below_drew1 | refine below_set ?_ GE103.out | refine below_set ?_ GE104.out | refine below_set ?_ GE111.out) | exact HB.out)) hb)
        clear BK103
        clear BK104
        clear BK111
        clear HB
        have BK103 := n0_
        have BK104 := n1_
        have BK111 := n2_
        have HB := n3_
        clear n0_ n1_ n2_ n3_
        (try clear hb)
        (try clear hb2)
        (try clear hk)
        (try clear hi)
        refine hK.out _ _ ⟨(blk_cell BK103.out 0).trans rfl, (blk_cell BK103.out 1).trans rfl, (blk_cell BK103.out 2).trans rfl, (blk_cell BK103.out 3).trans rfl, (blk_cell BK103.out 4).trans rfl, (blk_cell BK103.out 5).trans rfl, (blk_cell BK103.out 6).trans rfl⟩ (fun hHeld => ?_)
        clear hK K
        refine norm_ (a' := ?_) ?_ ?_
        rotate_left
        · show Act.put _ (some 92) _ = _
          simp only [Act.put, List.setIfInBounds_toArray, List.set_cons_zero, List.set_cons_succ, i64_w, i32_w]
          rfl
        refine pure_ (i := 8) (N := some 93) (v := ?_) (a' := ?_) #[true, true, true, true, true, true, true, true, true, true, true, true, false, false, false, false] rfl rfl (any_of HT_.out (by kernel_rfl)) (fun _ _ _ h => h) (Or.inl ⟨by rfl, ?_⟩) ?_ ?_
        rotate_left
        · intro w'
          go_simp
          with_reducible rfl
        rotate_left
        · simp only [Act.put, List.setIfInBounds_toArray, List.set_cons_zero, List.set_cons_succ, i64_w, i32_w]
          rfl
        refine one_ (i := 12) (N := some 97) #[true, true, true, true, true, true, true, true, true, true, true, true, true, false, false, false] rfl rfl (one_of HT_.out (by kernel_rfl)) (by decide) (fun K hK => ?_)
        refine goes_ Try.func22 (by kernel_rfl) rfl #[.int .i64 (wrap64 ((wrap64 (2 * (wrap64 (a0_0 * a0_1)))) + 3))] (by rfl) rfl rfl (by (try simp only [List.map_toArray, List.map_cons, List.map_nil]); first | done | rfl | (simp only [List.length_drop, List.length_take]; rfl)) ?_
        with_reducible refine (size_length.calls kj1 (wrap64 ((wrap64 (2 * (wrap64 (a0_0 * a0_1)))) + 3)) t119 _ A40.out).mono ?_
        rintro e w68 ⟨rfl, hb⟩
        refine ⟨_, rfl, ?_⟩
        have n0_ := Aside0.mk (blk_below (g := gb103) (o := .cells #[.int .i64 a0_0, .int .i64 a0_1, .int .i64 a0_2, .int .i64 a0_3, .int .i64 a0_4, .int .i64 a0_5, .bool a0_6] 29 (0, 0)) (by (with_reducible repeat (first | refine blk_drewN ?_ _ | refine blk_drew ?_ | refine blk_alloc ?_ _)); exact BK103.out) hb)
        have n1_ := Aside0.mk (blk_below (g := gb104) (o := .cells #[.int .i64 0, .int .i64 0, .int .i64 0, .int .i64 0, .int .i64 0, .int .i64 0, .int .i64 0, .int .i64 0, .int .i64 0, .int .i64 0, .int .i64 0] 24 (0, 0)) (by (with_reducible repeat (first | refine blk_drewN ?_ _ | refine blk_drew ?_ | refine blk_alloc ?_ _)); exact BK104.out) hb)
        have n2_ := Aside0.mk (blk_below (g := gb111) (o := .cells #[.int .i64 (wrap64 ((wrap64 (2 * t112)) + t113)), .int .i64 t115, .int .i64 (wrap64 ((wrap64 (4 + a0_3)) + (ji37))), .int .i64 0, .int .i64 0, .int .i64 0, .int .i64 0, .int .i64 0, .int .i64 0, .int .i64 0, .int .i64 0] 24 (0, 0)) (by (with_reducible repeat (first | refine blk_drewN ?_ _ | refine blk_drew ?_ | refine blk_alloc ?_ _)); exact BK111.out) hb)
        have n3_ := Aside0.mk (below_step (by repeat (first | (with_reducible first | exact HB.out | apply below_alloc | apply pw_below_drewN | apply below_drew1 | refine below_set ?_ GE103.out | refine below_set ?_ GE104.out | refine below_set ?_ GE111.out) | exact HB.out)) hb)
        clear BK103
        clear BK104
        clear BK111
        clear HB
        have BK103 := n0_
        have BK104 := n1_
        have BK111 := n2_
        have HB := n3_
        clear n0_ n1_ n2_ n3_
        (try clear hb)
        (try clear hb2)
        (try clear hk)
        (try clear hi)
        refine hK.out _ _ ⟨(blk_cell BK103.out 0).trans rfl, (blk_cell BK103.out 1).trans rfl, (blk_cell BK103.out 2).trans rfl, (blk_cell BK103.out 3).trans rfl, (blk_cell BK103.out 4).trans rfl, (blk_cell BK103.out 5).trans rfl, (blk_cell BK103.out 6).trans rfl⟩ (fun hHeld => ?_)
        clear hK K
        refine norm_ (a' := ?_) ?_ ?_
        rotate_left
        · show Act.put _ (some 97) _ = _
          simp only [Act.put, List.setIfInBounds_toArray, List.set_cons_zero, List.set_cons_succ, i64_w, i32_w]
          rfl
        refine pure_ (i := 13) (N := some 98) (v := ?_) (a' := ?_) #[true, true, true, true, true, true, true, true, true, true, true, true, true, true, false, false] rfl rfl (any_of HT_.out (by kernel_rfl)) (fun _ _ _ h => h) (Or.inl ⟨by rfl, ?_⟩) ?_ ?_
        rotate_left
        · intro w'
          go_simp
          with_reducible rfl
        rotate_left
        · simp only [Act.put, List.setIfInBounds_toArray, List.set_cons_zero, List.set_cons_succ, i64_w, i32_w]
          rfl
        refine pure_ (i := 14) (N := some 99) (v := ?_) (a' := ?_) #[true, true, true, true, true, true, true, true, true, true, true, true, true, true, true, false] rfl rfl (any_of HT_.out (by kernel_rfl)) (fun _ _ _ h => h) (Or.inl ⟨by rfl, ?_⟩) ?_ ?_
        rotate_left
        · intro w'
          go_simp
          with_reducible rfl
        rotate_left
        · simp only [Act.put, List.setIfInBounds_toArray, List.set_cons_zero, List.set_cons_succ, i64_w, i32_w]
          rfl
        refine one_ (i := 15) (N := none) #[true, true, true, true, true, true, true, true, true, true, true, true, true, true, true, true] rfl rfl (one_of HT_.out (by kernel_rfl)) (by decide) (fun K hK => ?_)
        have hs69 : w68.cell? ⟨gb111, 3, none⟩ = some (.int .i64 0) := (blk_cell BK111.out 3).trans rfl
        have hfs69 := blk_frozen BK111.out 3
        have hns69_0 := NB103_111.out
        have hns69_1 := NB104_111.out
        have hms69_0 := NB111_103.out
        have hms69_1 := NB111_104.out
        refine skip_ (w1 := ?_) (by rfl) rfl ?_ ?_
        rotate_left
        · go_simp
          rfl
        refine hK.out _ _ ⟨((cell_far (p := ⟨gb111, _, none⟩) NB103_111.out _).trans (hHeld.1)), ((cell_far (p := ⟨gb111, _, none⟩) NB103_111.out _).trans (hHeld.2.1)), ((cell_far (p := ⟨gb111, _, none⟩) NB103_111.out _).trans (hHeld.2.2.1)), ((cell_far (p := ⟨gb111, _, none⟩) NB103_111.out _).trans (hHeld.2.2.2.1)), ((cell_far (p := ⟨gb111, _, none⟩) NB103_111.out _).trans (hHeld.2.2.2.2.1)), ((cell_far (p := ⟨gb111, _, none⟩) NB103_111.out _).trans (hHeld.2.2.2.2.2.1)), ((cell_far (p := ⟨gb111, _, none⟩) NB103_111.out _).trans (hHeld.2.2.2.2.2.2))⟩ (fun hHeld => ?_)
        clear hK K
        refine done_ (done_of HT_.out (by kernel_rfl)) ?_
        try go_wp2
        have n0_ : Aside0 ((w68.setCell ⟨gb111, 3, none⟩ (.int .i64 (wrap64 ((wrap64 (t117 + t118)) + t119)))).heap[gb103]? = some (.cells #[.int .i64 a0_0, .int .i64 a0_1, .int .i64 a0_2, .int .i64 a0_3, .int .i64 a0_4, .int .i64 a0_5, .bool a0_6] 29 (0, 0))) := ⟨by (with_reducible repeat (first | refine blk_drewN ?_ _ | refine blk_drew ?_ | refine blk_alloc ?_ _)); refine blk_far ?_ NB103_111.out _; (with_reducible repeat (first | refine blk_drewN ?_ _ | refine blk_drew ?_ | refine blk_alloc ?_ _)); exact BK103.out⟩
        have n1_ : Aside0 ((w68.setCell ⟨gb111, 3, none⟩ (.int .i64 (wrap64 ((wrap64 (t117 + t118)) + t119)))).heap[gb104]? = some (.cells #[.int .i64 0, .int .i64 0, .int .i64 0, .int .i64 0, .int .i64 0, .int .i64 0, .int .i64 0, .int .i64 0, .int .i64 0, .int .i64 0, .int .i64 0] 24 (0, 0))) := ⟨by (with_reducible repeat (first | refine blk_drewN ?_ _ | refine blk_drew ?_ | refine blk_alloc ?_ _)); refine blk_far ?_ NB104_111.out _; (with_reducible repeat (first | refine blk_drewN ?_ _ | refine blk_drew ?_ | refine blk_alloc ?_ _)); exact BK104.out⟩
        have n2_ : Aside0 ((w68.setCell ⟨gb111, 3, none⟩ (.int .i64 (wrap64 ((wrap64 (t117 + t118)) + t119)))).heap[gb111]? = some (.cells #[.int .i64 (wrap64 ((wrap64 (2 * t112)) + t113)), .int .i64 t115, .int .i64 (wrap64 ((wrap64 (4 + a0_3)) + (ji37))), .int .i64 (wrap64 ((wrap64 (t117 + t118)) + t119)), .int .i64 0, .int .i64 0, .int .i64 0, .int .i64 0, .int .i64 0, .int .i64 0, .int .i64 0] 24 (0, 0))) := ⟨by (with_reducible repeat (first | refine blk_drewN ?_ _ | refine blk_drew ?_ | refine blk_alloc ?_ _)); refine blk_put (cs := #[.int .i64 (wrap64 ((wrap64 (2 * t112)) + t113)), .int .i64 t115, .int .i64 (wrap64 ((wrap64 (4 + a0_3)) + (ji37))), .int .i64 0, .int .i64 0, .int .i64 0, .int .i64 0, .int .i64 0, .int .i64 0, .int .i64 0, .int .i64 0]) ?_ 3 _ rfl; (with_reducible repeat (first | refine blk_drewN ?_ _ | refine blk_drew ?_ | refine blk_alloc ?_ _)); exact BK111.out⟩
        have n3_ : Aside0 (Below w.heap.size w (w68.setCell ⟨gb111, 3, none⟩ (.int .i64 (wrap64 ((wrap64 (t117 + t118)) + t119))))) := ⟨by repeat (first | (with_reducible first | exact HB.out | apply below_alloc | apply pw_below_drewN | apply below_drew1 | refine below_set ?_ GE103.out | refine below_set ?_ GE104.out | refine below_set ?_ GE111.out) | exact HB.out)⟩
        (try clear BK103)
        (try clear BK104)
        (try clear BK111)
        (try clear HB)
        generalize (w68.setCell ⟨gb111, 3, none⟩ (.int .i64 (wrap64 ((wrap64 (t117 + t118)) + t119)))) = w70 at n0_ n1_ n2_ n3_ ⊢
        have BK103 := n0_
        have BK104 := n1_
        have BK111 := n2_
        have HB := n3_
        clear n0_ n1_ n2_ n3_
        have n0_ := Aside0.mk (blk_drew BK103.out)
        have n1_ := Aside0.mk (blk_drew BK104.out)
        have n2_ := Aside0.mk (blk_drew BK111.out)
        have n3_ := Aside0.mk (below_drew1 HB.out)
        clear BK103
        clear BK104
        clear BK111
        clear HB
        have BK103 := n0_
        have BK104 := n1_
        have BK111 := n2_
        have HB := n3_
        clear n0_ n1_ n2_ n3_
        refine start_ (n := 12) (S := fun w' => w'.cell? ⟨gb111, 0, none⟩ = some (.int .i64 (wrap64 ((wrap64 (2 * t112)) + t113))) ∧ w'.cell? ⟨gb111, 1, none⟩ = some (.int .i64 t115) ∧ w'.cell? ⟨gb111, 2, none⟩ = some (.int .i64 (wrap64 ((wrap64 (4 + a0_3)) + (ji37)))) ∧ w'.cell? ⟨gb111, 3, none⟩ = some (.int .i64 (wrap64 ((wrap64 (t117 + t118)) + t119))) ∧ w'.cell? ⟨gb111, 4, none⟩ = some (.int .i64 0) ∧ w'.cell? ⟨gb111, 5, none⟩ = some (.int .i64 0) ∧ w'.cell? ⟨gb111, 6, none⟩ = some (.int .i64 0) ∧ w'.cell? ⟨gb111, 7, none⟩ = some (.int .i64 0) ∧ w'.cell? ⟨gb111, 8, none⟩ = some (.int .i64 0) ∧ w'.cell? ⟨gb111, 9, none⟩ = some (.int .i64 0) ∧ w'.cell? ⟨gb111, 10, none⟩ = some (.int .i64 0)) (ds := [11]) #[false, false, false, false, false, false, false, false, false, false, false, false] (by kernel_rfl) rfl rfl ⟨(blk_cell BK111.out 0).trans rfl, (blk_cell BK111.out 1).trans rfl, (blk_cell BK111.out 2).trans rfl, (blk_cell BK111.out 3).trans rfl, (blk_cell BK111.out 4).trans rfl, (blk_cell BK111.out 5).trans rfl, (blk_cell BK111.out 6).trans rfl, (blk_cell BK111.out 7).trans rfl, (blk_cell BK111.out 8).trans rfl, (blk_cell BK111.out 9).trans rfl, (blk_cell BK111.out 10).trans rfl⟩ (fun hHeld => ?_); refine with_tabW size_Of.tab9 size_Of.bits9 (fun HT_ HW_ => ?_)
        generalize w70.drew = w71 at BK103 BK104 BK111 HB hHeld ⊢
        refine pure_ (i := 0) (N := some 100) (v := ?_) (a' := ?_) #[true, false, false, false, false, false, false, false, false, false, false, false] rfl rfl (any_of HT_.out (by kernel_rfl)) (fun _ _ _ h => h) (Or.inl ⟨by rfl, ?_⟩) ?_ ?_
        rotate_left
        · intro w'
          go_simp
          with_reducible rfl
        rotate_left
        · simp only [Act.put, List.setIfInBounds_toArray, List.set_cons_zero, List.set_cons_succ, i64_w, i32_w]
          rfl
        refine pure_ (i := 3) (N := some 103) (v := ?_) (a' := ?_) #[true, false, false, true, false, false, false, false, false, false, false, false] rfl rfl (any_of HT_.out (by kernel_rfl)) (fun _ _ _ h => h) (Or.inl ⟨by rfl, ?_⟩) ?_ ?_
        rotate_left
        · intro w'
          go_simp
          with_reducible rfl
        rotate_left
        · simp only [Act.put, List.setIfInBounds_toArray, List.set_cons_zero, List.set_cons_succ, i64_w, i32_w]
          rfl
        refine pure_ (i := 5) (N := some 105) (v := ?_) (a' := ?_) #[true, false, false, true, false, true, false, false, false, false, false, false] rfl rfl (any_of HT_.out (by kernel_rfl)) (fun _ _ _ h => h) (Or.inl ⟨by rfl, ?_⟩) ?_ ?_
        rotate_left
        · intro w'
          go_simp
          with_reducible rfl
        rotate_left
        · simp only [Act.put, List.setIfInBounds_toArray, List.set_cons_zero, List.set_cons_succ, i64_w, i32_w]
          rfl
        refine take_ (i := 1) (N := some 101) (v := ?_) (a' := ?_) #[true, true, false, true, false, true, false, false, false, false, false, false] rfl rfl (take_ofW HT_.out HW_.out (by kernel_rfl)) (fun _ _ _ h => h) (Or.inl ⟨by rfl, ?_⟩) hHeld ?_ ?_
        rotate_left
        · rintro w' ⟨s0, s1, s2, s3, s4, s5, s6, s7, s8, s9, s10⟩
          go_simp
          with_reducible rfl
        rotate_left
        · simp only [Act.put, List.setIfInBounds_toArray, List.set_cons_zero, List.set_cons_succ, i64_w, i32_w]
          rfl
        refine take_ (i := 4) (N := some 104) (v := ?_) (a' := ?_) #[true, true, false, true, true, true, false, false, false, false, false, false] rfl rfl (take_ofW HT_.out HW_.out (by kernel_rfl)) (fun _ _ _ h => h) (Or.inl ⟨by rfl, ?_⟩) hHeld ?_ ?_
        rotate_left
        · rintro w' ⟨s0, s1, s2, s3, s4, s5, s6, s7, s8, s9, s10⟩
          go_simp
          with_reducible rfl
        rotate_left
        · simp only [Act.put, List.setIfInBounds_toArray, List.set_cons_zero, List.set_cons_succ, i64_w, i32_w]
          rfl
        refine take_ (i := 6) (N := some 106) (v := ?_) (a' := ?_) #[true, true, false, true, true, true, true, false, false, false, false, false] rfl rfl (take_ofW HT_.out HW_.out (by kernel_rfl)) (fun _ _ _ h => h) (Or.inl ⟨by rfl, ?_⟩) hHeld ?_ ?_
        rotate_left
        · rintro w' ⟨s0, s1, s2, s3, s4, s5, s6, s7, s8, s9, s10⟩
          go_simp
          with_reducible rfl
        rotate_left
        · simp only [Act.put, List.setIfInBounds_toArray, List.set_cons_zero, List.set_cons_succ, i64_w, i32_w]
          rfl
        refine pure_ (i := 7) (N := some 107) (v := ?_) (a' := ?_) #[true, true, false, true, true, true, true, true, false, false, false, false] rfl rfl (any_of HT_.out (by kernel_rfl)) (fun _ _ _ h => h) (Or.inl ⟨by rfl, ?_⟩) ?_ ?_
        rotate_left
        · intro w'
          go_simp
          with_reducible rfl
        rotate_left
        · simp only [Act.put, List.setIfInBounds_toArray, List.set_cons_zero, List.set_cons_succ, i64_w, i32_w]
          rfl
        refine one_ (i := 2) (N := some 102) #[true, true, true, true, true, true, true, true, false, false, false, false] rfl rfl (one_of HT_.out (by kernel_rfl)) (by decide) (fun K hK => ?_)
        refine goes_ Try.func22 (by kernel_rfl) rfl #[.int .i64 (wrap64 ((wrap64 (4 + a0_3)) + (ji37)))] (by rfl) rfl rfl (by (try simp only [List.map_toArray, List.map_cons, List.map_nil]); first | done | (simp only [hji37]; rfl) | rfl | (simp only [List.length_drop, List.length_take]; rfl)) ?_
        with_reducible refine (size_length.calls kj1 (wrap64 ((wrap64 (4 + a0_3)) + (ji37))) t120 _ A41.out).mono ?_
        rintro e w72 ⟨rfl, hb⟩
        refine ⟨_, rfl, ?_⟩
        have n0_ := Aside0.mk (blk_below (g := gb103) (o := .cells #[.int .i64 a0_0, .int .i64 a0_1, .int .i64 a0_2, .int .i64 a0_3, .int .i64 a0_4, .int .i64 a0_5, .bool a0_6] 29 (0, 0)) (by (with_reducible repeat (first | refine blk_drewN ?_ _ | refine blk_drew ?_ | refine blk_alloc ?_ _)); exact BK103.out) hb)
        have n1_ := Aside0.mk (blk_below (g := gb104) (o := .cells #[.int .i64 0, .int .i64 0, .int .i64 0, .int .i64 0, .int .i64 0, .int .i64 0, .int .i64 0, .int .i64 0, .int .i64 0, .int .i64 0, .int .i64 0] 24 (0, 0)) (by (with_reducible repeat (first | refine blk_drewN ?_ _ | refine blk_drew ?_ | refine blk_alloc ?_ _)); exact BK104.out) hb)
        have n2_ := Aside0.mk (blk_below (g := gb111) (o := .cells #[.int .i64 (wrap64 ((wrap64 (2 * t112)) + t113)), .int .i64 t115, .int .i64 (wrap64 ((wrap64 (4 + a0_3)) + (ji37))), .int .i64 (wrap64 ((wrap64 (t117 + t118)) + t119)), .int .i64 0, .int .i64 0, .int .i64 0, .int .i64 0, .int .i64 0, .int .i64 0, .int .i64 0] 24 (0, 0)) (by (with_reducible repeat (first | refine blk_drewN ?_ _ | refine blk_drew ?_ | refine blk_alloc ?_ _)); exact BK111.out) hb)
        have n3_ := Aside0.mk (below_step (by repeat (first | (with_reducible first | exact HB.out | apply below_alloc | apply pw_below_drewN | apply below_drew1 | refine below_set ?_ GE103.out | refine below_set ?_ GE104.out | refine below_set ?_ GE111.out) | exact HB.out)) hb)
        clear BK103
        clear BK104
        clear BK111
        clear HB
        have BK103 := n0_
        have BK104 := n1_
        have BK111 := n2_
        have HB := n3_
        clear n0_ n1_ n2_ n3_
        (try clear hb)
        (try clear hb2)
        (try clear hk)
        (try clear hi)
        refine hK.out _ _ ⟨(blk_cell BK111.out 0).trans rfl, (blk_cell BK111.out 1).trans rfl, (blk_cell BK111.out 2).trans rfl, (blk_cell BK111.out 3).trans rfl, (blk_cell BK111.out 4).trans rfl, (blk_cell BK111.out 5).trans rfl, (blk_cell BK111.out 6).trans rfl, (blk_cell BK111.out 7).trans rfl, (blk_cell BK111.out 8).trans rfl, (blk_cell BK111.out 9).trans rfl, (blk_cell BK111.out 10).trans rfl⟩ (fun hHeld => ?_)
        clear hK K
        refine norm_ (a' := ?_) ?_ ?_
        rotate_left
        · show Act.put _ (some 102) _ = _
          simp only [Act.put, List.setIfInBounds_toArray, List.set_cons_zero, List.set_cons_succ, i64_w, i32_w]
          rfl
        refine pure_ (i := 8) (N := some 108) (v := ?_) (a' := ?_) #[true, true, true, true, true, true, true, true, true, false, false, false] rfl rfl (any_of HT_.out (by kernel_rfl)) (fun _ _ _ h => h) (Or.inl ⟨by rfl, ?_⟩) ?_ ?_
        rotate_left
        · intro w'
          go_simp
          with_reducible rfl
        rotate_left
        · simp only [Act.put, List.setIfInBounds_toArray, List.set_cons_zero, List.set_cons_succ, i64_w, i32_w]
          rfl
        refine one_ (i := 9) (N := some 109) #[true, true, true, true, true, true, true, true, true, true, false, false] rfl rfl (one_of HT_.out (by kernel_rfl)) (by decide) (fun K hK => ?_)
        refine goes_ Try.func23 (by kernel_rfl) rfl #[.int .i64 (wrap64 (t120 + (wrap64 ((wrap64 ((wrap64 (4 + a0_3)) + (ji37))) * (wrap64 ((wrap64 (t117 + t118)) + t119))))))] (by rfl) rfl rfl (by (try simp only [List.map_toArray, List.map_cons, List.map_nil]); first | done | (simp only [hji37]; rfl) | rfl | (simp only [List.length_drop, List.length_take]; rfl)) ?_
        with_reducible refine (leaf_Pages.calls (wrap64 (t120 + (wrap64 ((wrap64 ((wrap64 (4 + a0_3)) + (ji37))) * (wrap64 ((wrap64 (t117 + t118)) + t119)))))) t121 _ A42.out).mono ?_
        rintro e w73 ⟨rfl, hb⟩
        refine ⟨_, rfl, ?_⟩
        have n0_ := Aside0.mk (blk_below (g := gb103) (o := .cells #[.int .i64 a0_0, .int .i64 a0_1, .int .i64 a0_2, .int .i64 a0_3, .int .i64 a0_4, .int .i64 a0_5, .bool a0_6] 29 (0, 0)) (by (with_reducible repeat (first | refine blk_drewN ?_ _ | refine blk_drew ?_ | refine blk_alloc ?_ _)); exact BK103.out) hb)
        have n1_ := Aside0.mk (blk_below (g := gb104) (o := .cells #[.int .i64 0, .int .i64 0, .int .i64 0, .int .i64 0, .int .i64 0, .int .i64 0, .int .i64 0, .int .i64 0, .int .i64 0, .int .i64 0, .int .i64 0] 24 (0, 0)) (by (with_reducible repeat (first | refine blk_drewN ?_ _ | refine blk_drew ?_ | refine blk_alloc ?_ _)); exact BK104.out) hb)
        have n2_ := Aside0.mk (blk_below (g := gb111) (o := .cells #[.int .i64 (wrap64 ((wrap64 (2 * t112)) + t113)), .int .i64 t115, .int .i64 (wrap64 ((wrap64 (4 + a0_3)) + (ji37))), .int .i64 (wrap64 ((wrap64 (t117 + t118)) + t119)), .int .i64 0, .int .i64 0, .int .i64 0, .int .i64 0, .int .i64 0, .int .i64 0, .int .i64 0] 24 (0, 0)) (by (with_reducible repeat (first | refine blk_drewN ?_ _ | refine blk_drew ?_ | refine blk_alloc ?_ _)); exact BK111.out) hb)
        have n3_ := Aside0.mk (below_step (by repeat (first | (with_reducible first | exact HB.out | apply below_alloc | apply pw_below_drewN | apply below_drew1 | refine below_set ?_ GE103.out | refine below_set ?_ GE104.out | refine below_set ?_ GE111.out) | exact HB.out)) hb)
        clear BK103
        clear BK104
        clear BK111
        clear HB
        have BK103 := n0_
        have BK104 := n1_
        have BK111 := n2_
        have HB := n3_
        clear n0_ n1_ n2_ n3_
        (try clear hb)
        (try clear hb2)
        (try clear hk)
        (try clear hi)
        refine hK.out _ _ ⟨(blk_cell BK111.out 0).trans rfl, (blk_cell BK111.out 1).trans rfl, (blk_cell BK111.out 2).trans rfl, (blk_cell BK111.out 3).trans rfl, (blk_cell BK111.out 4).trans rfl, (blk_cell BK111.out 5).trans rfl, (blk_cell BK111.out 6).trans rfl, (blk_cell BK111.out 7).trans rfl, (blk_cell BK111.out 8).trans rfl, (blk_cell BK111.out 9).trans rfl, (blk_cell BK111.out 10).trans rfl⟩ (fun hHeld => ?_)
        clear hK K
        refine norm_ (a' := ?_) ?_ ?_
        rotate_left
        · show Act.put _ (some 109) _ = _
          simp only [Act.put, List.setIfInBounds_toArray, List.set_cons_zero, List.set_cons_succ, i64_w, i32_w]
          rfl
        refine pure_ (i := 10) (N := some 110) (v := ?_) (a' := ?_) #[true, true, true, true, true, true, true, true, true, true, true, false] rfl rfl (any_of HT_.out (by kernel_rfl)) (fun _ _ _ h => h) (Or.inl ⟨by rfl, ?_⟩) ?_ ?_
        rotate_left
        · intro w'
          go_simp
          with_reducible rfl
        rotate_left
        · simp only [Act.put, List.setIfInBounds_toArray, List.set_cons_zero, List.set_cons_succ, i64_w, i32_w]
          rfl
        refine last_ (i := 11) (N := none) #[true, true, true, true, true, true, true, true, true, true, true, true] rfl rfl (one_of HT_.out (by kernel_rfl)) (by decide) (fun K hK => ?_)
        have hs74 : w73.cell? ⟨gb111, 4, none⟩ = some (.int .i64 0) := (blk_cell BK111.out 4).trans rfl
        have hfs74 := blk_frozen BK111.out 4
        have hns74_0 := NB103_111.out
        have hns74_1 := NB104_111.out
        have hms74_0 := NB111_103.out
        have hms74_1 := NB111_104.out
        refine skip_ (w1 := ?_) (by rfl) rfl ?_ ?_
        rotate_left
        · go_simp
          rfl
        refine hK.out _ _ ?_
        clear hK K
        refine done_ (done_of HT_.out (by kernel_rfl)) ?_
        have hcz75_0 : w73.cell? ⟨gb111, 0, none⟩ = some (.int .i64 (wrap64 ((wrap64 (2 * t112)) + t113))) := (blk_cell BK111.out 0).trans rfl
        have hcz75_1 : w73.cell? ⟨gb111, 1, none⟩ = some (.int .i64 t115) := (blk_cell BK111.out 1).trans rfl
        have hcz75_2 : w73.cell? ⟨gb111, 2, none⟩ = some (.int .i64 (wrap64 ((wrap64 (4 + a0_3)) + (ji37)))) := (blk_cell BK111.out 2).trans rfl
        have hcz75_3 : w73.cell? ⟨gb111, 3, none⟩ = some (.int .i64 (wrap64 ((wrap64 (t117 + t118)) + t119))) := (blk_cell BK111.out 3).trans rfl
        have hcz75_4 : w73.cell? ⟨gb111, 4, none⟩ = some (.int .i64 0) := (blk_cell BK111.out 4).trans rfl
        have hcz75_5 : w73.cell? ⟨gb111, 5, none⟩ = some (.int .i64 0) := (blk_cell BK111.out 5).trans rfl
        have hcz75_6 : w73.cell? ⟨gb111, 6, none⟩ = some (.int .i64 0) := (blk_cell BK111.out 6).trans rfl
        have hcz75_7 : w73.cell? ⟨gb111, 7, none⟩ = some (.int .i64 0) := (blk_cell BK111.out 7).trans rfl
        have hcz75_8 : w73.cell? ⟨gb111, 8, none⟩ = some (.int .i64 0) := (blk_cell BK111.out 8).trans rfl
        have hcz75_9 : w73.cell? ⟨gb111, 9, none⟩ = some (.int .i64 0) := (blk_cell BK111.out 9).trans rfl
        have hcz75_10 : w73.cell? ⟨gb111, 10, none⟩ = some (.int .i64 0) := (blk_cell BK111.out 10).trans rfl
        have hfz75_0 := blk_frozen BK111.out 0
        have hfz75_1 := blk_frozen BK111.out 1
        have hfz75_2 := blk_frozen BK111.out 2
        have hfz75_3 := blk_frozen BK111.out 3
        have hfz75_4 := blk_frozen BK111.out 4
        have hfz75_5 := blk_frozen BK111.out 5
        have hfz75_6 := blk_frozen BK111.out 6
        have hfz75_7 := blk_frozen BK111.out 7
        have hfz75_8 := blk_frozen BK111.out 8
        have hfz75_9 := blk_frozen BK111.out 9
        have hfz75_10 := blk_frozen BK111.out 10
        have hcz76_0 : w73.cell? ⟨gb103, 0, none⟩ = some (.int .i64 a0_0) := (blk_cell BK103.out 0).trans rfl
        have hcz76_1 : w73.cell? ⟨gb103, 1, none⟩ = some (.int .i64 a0_1) := (blk_cell BK103.out 1).trans rfl
        have hcz76_2 : w73.cell? ⟨gb103, 2, none⟩ = some (.int .i64 a0_2) := (blk_cell BK103.out 2).trans rfl
        have hcz76_3 : w73.cell? ⟨gb103, 3, none⟩ = some (.int .i64 a0_3) := (blk_cell BK103.out 3).trans rfl
        have hcz76_4 : w73.cell? ⟨gb103, 4, none⟩ = some (.int .i64 a0_4) := (blk_cell BK103.out 4).trans rfl
        have hcz76_5 : w73.cell? ⟨gb103, 5, none⟩ = some (.int .i64 a0_5) := (blk_cell BK103.out 5).trans rfl
        have hcz76_6 : w73.cell? ⟨gb103, 6, none⟩ = some (.bool a0_6) := (blk_cell BK103.out 6).trans rfl
        have hfz76_0 := blk_frozen BK103.out 0
        have hfz76_1 := blk_frozen BK103.out 1
        have hfz76_2 := blk_frozen BK103.out 2
        have hfz76_3 := blk_frozen BK103.out 3
        have hfz76_4 := blk_frozen BK103.out 4
        have hfz76_5 := blk_frozen BK103.out 5
        have hfz76_6 := blk_frozen BK103.out 6
        try go_wp2_with (first | ((with_reducible refine gate_callee (f := 24) rfl ?_); refine goesL_ (some 128) rfl rfl Try.func24 (by kernel_rfl) rfl #[.int .i64 (wrap64 (t115 + (wrap64 ((wrap64 ((wrap64 (2 * t121)) + a0_1)) + t115)))), .int .i64 a0_1] rfl (by (try simp only [List.map_toArray, List.map_cons, List.map_nil]); first | done | rfl | (simp only [List.length_drop, List.length_take]; rfl)) ?_; (with_reducible refine (size_up.calls (wrap64 (t115 + (wrap64 ((wrap64 ((wrap64 (2 * t121)) + a0_1)) + t115)))) a0_1 t122 _ A43.out).mono ?_); rintro e w' ⟨rfl, ⟨nd, rfl⟩⟩; refine ⟨_, rfl, ?_⟩))
        have n0_ : Aside0 ((((w73.setCell ⟨gb111, 4, none⟩ (.int .i64 t121)).setCell ⟨gb111, 5, none⟩ (.int .i64 (wrap64 ((wrap64 ((wrap64 (2 * t121)) + a0_1)) + t115)))).setCell ⟨gb111, 6, none⟩ (.int .i64 t122)).heap[gb103]? = some (.cells #[.int .i64 a0_0, .int .i64 a0_1, .int .i64 a0_2, .int .i64 a0_3, .int .i64 a0_4, .int .i64 a0_5, .bool a0_6] 29 (0, 0))) := ⟨by (with_reducible repeat (first | refine blk_drewN ?_ _ | refine blk_drew ?_ | refine blk_alloc ?_ _)); refine blk_far ?_ NB103_111.out _; (with_reducible repeat (first | refine blk_drewN ?_ _ | refine blk_drew ?_ | refine blk_alloc ?_ _)); refine blk_far ?_ NB103_111.out _; (with_reducible repeat (first | refine blk_drewN ?_ _ | refine blk_drew ?_ | refine blk_alloc ?_ _)); refine blk_far ?_ NB103_111.out _; (with_reducible repeat (first | refine blk_drewN ?_ _ | refine blk_drew ?_ | refine blk_alloc ?_ _)); exact BK103.out⟩
        have n1_ : Aside0 ((((w73.setCell ⟨gb111, 4, none⟩ (.int .i64 t121)).setCell ⟨gb111, 5, none⟩ (.int .i64 (wrap64 ((wrap64 ((wrap64 (2 * t121)) + a0_1)) + t115)))).setCell ⟨gb111, 6, none⟩ (.int .i64 t122)).heap[gb104]? = some (.cells #[.int .i64 0, .int .i64 0, .int .i64 0, .int .i64 0, .int .i64 0, .int .i64 0, .int .i64 0, .int .i64 0, .int .i64 0, .int .i64 0, .int .i64 0] 24 (0, 0))) := ⟨by (with_reducible repeat (first | refine blk_drewN ?_ _ | refine blk_drew ?_ | refine blk_alloc ?_ _)); refine blk_far ?_ NB104_111.out _; (with_reducible repeat (first | refine blk_drewN ?_ _ | refine blk_drew ?_ | refine blk_alloc ?_ _)); refine blk_far ?_ NB104_111.out _; (with_reducible repeat (first | refine blk_drewN ?_ _ | refine blk_drew ?_ | refine blk_alloc ?_ _)); refine blk_far ?_ NB104_111.out _; (with_reducible repeat (first | refine blk_drewN ?_ _ | refine blk_drew ?_ | refine blk_alloc ?_ _)); exact BK104.out⟩
        have n2_ : Aside0 ((((w73.setCell ⟨gb111, 4, none⟩ (.int .i64 t121)).setCell ⟨gb111, 5, none⟩ (.int .i64 (wrap64 ((wrap64 ((wrap64 (2 * t121)) + a0_1)) + t115)))).setCell ⟨gb111, 6, none⟩ (.int .i64 t122)).heap[gb111]? = some (.cells #[.int .i64 (wrap64 ((wrap64 (2 * t112)) + t113)), .int .i64 t115, .int .i64 (wrap64 ((wrap64 (4 + a0_3)) + (ji37))), .int .i64 (wrap64 ((wrap64 (t117 + t118)) + t119)), .int .i64 t121, .int .i64 (wrap64 ((wrap64 ((wrap64 (2 * t121)) + a0_1)) + t115)), .int .i64 t122, .int .i64 0, .int .i64 0, .int .i64 0, .int .i64 0] 24 (0, 0))) := ⟨by (with_reducible repeat (first | refine blk_drewN ?_ _ | refine blk_drew ?_ | refine blk_alloc ?_ _)); refine blk_put (cs := #[.int .i64 (wrap64 ((wrap64 (2 * t112)) + t113)), .int .i64 t115, .int .i64 (wrap64 ((wrap64 (4 + a0_3)) + (ji37))), .int .i64 (wrap64 ((wrap64 (t117 + t118)) + t119)), .int .i64 t121, .int .i64 (wrap64 ((wrap64 ((wrap64 (2 * t121)) + a0_1)) + t115)), .int .i64 0, .int .i64 0, .int .i64 0, .int .i64 0, .int .i64 0]) ?_ 6 _ rfl; (with_reducible repeat (first | refine blk_drewN ?_ _ | refine blk_drew ?_ | refine blk_alloc ?_ _)); refine blk_put (cs := #[.int .i64 (wrap64 ((wrap64 (2 * t112)) + t113)), .int .i64 t115, .int .i64 (wrap64 ((wrap64 (4 + a0_3)) + (ji37))), .int .i64 (wrap64 ((wrap64 (t117 + t118)) + t119)), .int .i64 t121, .int .i64 0, .int .i64 0, .int .i64 0, .int .i64 0, .int .i64 0, .int .i64 0]) ?_ 5 _ rfl; (with_reducible repeat (first | refine blk_drewN ?_ _ | refine blk_drew ?_ | refine blk_alloc ?_ _)); refine blk_put (cs := #[.int .i64 (wrap64 ((wrap64 (2 * t112)) + t113)), .int .i64 t115, .int .i64 (wrap64 ((wrap64 (4 + a0_3)) + (ji37))), .int .i64 (wrap64 ((wrap64 (t117 + t118)) + t119)), .int .i64 0, .int .i64 0, .int .i64 0, .int .i64 0, .int .i64 0, .int .i64 0, .int .i64 0]) ?_ 4 _ rfl; (with_reducible repeat (first | refine blk_drewN ?_ _ | refine blk_drew ?_ | refine blk_alloc ?_ _)); exact BK111.out⟩
        have n3_ : Aside0 (Below w.heap.size w (((w73.setCell ⟨gb111, 4, none⟩ (.int .i64 t121)).setCell ⟨gb111, 5, none⟩ (.int .i64 (wrap64 ((wrap64 ((wrap64 (2 * t121)) + a0_1)) + t115)))).setCell ⟨gb111, 6, none⟩ (.int .i64 t122))) := ⟨by repeat (first | (with_reducible first | exact HB.out | apply below_alloc | apply pw_below_drewN | apply below_drew1 | refine below_set ?_ GE103.out | refine below_set ?_ GE104.out | refine below_set ?_ GE111.out) | exact HB.out)⟩
        (try clear BK103)
        (try clear BK104)
        (try clear BK111)
        (try clear HB)
        generalize (((w73.setCell ⟨gb111, 4, none⟩ (.int .i64 t121)).setCell ⟨gb111, 5, none⟩ (.int .i64 (wrap64 ((wrap64 ((wrap64 (2 * t121)) + a0_1)) + t115)))).setCell ⟨gb111, 6, none⟩ (.int .i64 t122)) = w77 at n0_ n1_ n2_ n3_ ⊢
        have BK103 := n0_
        have BK104 := n1_
        have BK111 := n2_
        have HB := n3_
        clear n0_ n1_ n2_ n3_
        (try (rw [drewN_self w77]; generalize hq_ : World.drewN w77 _ = w77; have n0_ : Aside0 (w77.heap[gb103]? = some (.cells #[.int .i64 a0_0, .int .i64 a0_1, .int .i64 a0_2, .int .i64 a0_3, .int .i64 a0_4, .int .i64 a0_5, .bool a0_6] 29 (0, 0))) := ⟨by rw [← hq_]; exact (by (with_reducible repeat (first | refine blk_drewN ?_ _ | refine blk_drew ?_ | refine blk_alloc ?_ _)); exact BK103.out)⟩; have n1_ : Aside0 (w77.heap[gb104]? = some (.cells #[.int .i64 0, .int .i64 0, .int .i64 0, .int .i64 0, .int .i64 0, .int .i64 0, .int .i64 0, .int .i64 0, .int .i64 0, .int .i64 0, .int .i64 0] 24 (0, 0))) := ⟨by rw [← hq_]; exact (by (with_reducible repeat (first | refine blk_drewN ?_ _ | refine blk_drew ?_ | refine blk_alloc ?_ _)); exact BK104.out)⟩; have n2_ : Aside0 (w77.heap[gb111]? = some (.cells #[.int .i64 (wrap64 ((wrap64 (2 * t112)) + t113)), .int .i64 t115, .int .i64 (wrap64 ((wrap64 (4 + a0_3)) + (ji37))), .int .i64 (wrap64 ((wrap64 (t117 + t118)) + t119)), .int .i64 t121, .int .i64 (wrap64 ((wrap64 ((wrap64 (2 * t121)) + a0_1)) + t115)), .int .i64 t122, .int .i64 0, .int .i64 0, .int .i64 0, .int .i64 0] 24 (0, 0))) := ⟨by rw [← hq_]; exact (by (with_reducible repeat (first | refine blk_drewN ?_ _ | refine blk_drew ?_ | refine blk_alloc ?_ _)); exact BK111.out)⟩; have n3_ : Aside0 (Below w.heap.size w w77) := ⟨by rw [← hq_]; exact (by repeat (first | (with_reducible first | exact HB.out | apply below_alloc | apply pw_below_drewN | apply below_drew1 | refine below_set ?_ GE103.out | refine below_set ?_ GE104.out | refine below_set ?_ GE111.out) | exact HB.out))⟩; clear BK103 BK104 BK111 HB hq_; have BK103 := n0_; have BK104 := n1_; have BK111 := n2_; have HB := n3_; clear n0_ n1_ n2_ n3_))
        have n0_ := Aside0.mk (blk_drew BK103.out)
        have n1_ := Aside0.mk (blk_drew BK104.out)
        have n2_ := Aside0.mk (blk_drew BK111.out)
        have n3_ := Aside0.mk (below_drew1 HB.out)
        clear BK103
        clear BK104
        clear BK111
        clear HB
        have BK103 := n0_
        have BK104 := n1_
        have BK111 := n2_
        have HB := n3_
        clear n0_ n1_ n2_ n3_
        refine start_ (n := 11) (S := fun w' => w'.cell? ⟨gb111, 0, none⟩ = some (.int .i64 (wrap64 ((wrap64 (2 * t112)) + t113))) ∧ w'.cell? ⟨gb111, 1, none⟩ = some (.int .i64 t115) ∧ w'.cell? ⟨gb111, 2, none⟩ = some (.int .i64 (wrap64 ((wrap64 (4 + a0_3)) + (ji37)))) ∧ w'.cell? ⟨gb111, 3, none⟩ = some (.int .i64 (wrap64 ((wrap64 (t117 + t118)) + t119))) ∧ w'.cell? ⟨gb111, 4, none⟩ = some (.int .i64 t121) ∧ w'.cell? ⟨gb111, 5, none⟩ = some (.int .i64 (wrap64 ((wrap64 ((wrap64 (2 * t121)) + a0_1)) + t115))) ∧ w'.cell? ⟨gb111, 6, none⟩ = some (.int .i64 t122) ∧ w'.cell? ⟨gb111, 7, none⟩ = some (.int .i64 0) ∧ w'.cell? ⟨gb111, 8, none⟩ = some (.int .i64 0) ∧ w'.cell? ⟨gb111, 9, none⟩ = some (.int .i64 0) ∧ w'.cell? ⟨gb111, 10, none⟩ = some (.int .i64 0) ∧ w'.cell? ⟨gb103, 0, none⟩ = some (.int .i64 a0_0) ∧ w'.cell? ⟨gb103, 1, none⟩ = some (.int .i64 a0_1) ∧ w'.cell? ⟨gb103, 2, none⟩ = some (.int .i64 a0_2) ∧ w'.cell? ⟨gb103, 3, none⟩ = some (.int .i64 a0_3) ∧ w'.cell? ⟨gb103, 4, none⟩ = some (.int .i64 a0_4) ∧ w'.cell? ⟨gb103, 5, none⟩ = some (.int .i64 a0_5) ∧ w'.cell? ⟨gb103, 6, none⟩ = some (.bool a0_6)) (ds := [10]) #[false, false, false, false, false, false, false, false, false, false, false] (by kernel_rfl) rfl rfl ⟨(blk_cell BK111.out 0).trans rfl, (blk_cell BK111.out 1).trans rfl, (blk_cell BK111.out 2).trans rfl, (blk_cell BK111.out 3).trans rfl, (blk_cell BK111.out 4).trans rfl, (blk_cell BK111.out 5).trans rfl, (blk_cell BK111.out 6).trans rfl, (blk_cell BK111.out 7).trans rfl, (blk_cell BK111.out 8).trans rfl, (blk_cell BK111.out 9).trans rfl, (blk_cell BK111.out 10).trans rfl, (blk_cell BK103.out 0).trans rfl, (blk_cell BK103.out 1).trans rfl, (blk_cell BK103.out 2).trans rfl, (blk_cell BK103.out 3).trans rfl, (blk_cell BK103.out 4).trans rfl, (blk_cell BK103.out 5).trans rfl, (blk_cell BK103.out 6).trans rfl⟩ (fun hHeld => ?_); refine with_tabW size_Of.tab12 size_Of.bits12 (fun HT_ HW_ => ?_)
        generalize w77.drew = w78 at BK103 BK104 BK111 HB hHeld ⊢
        refine pure_ (i := 0) (N := some 130) (v := ?_) (a' := ?_) #[true, false, false, false, false, false, false, false, false, false, false] rfl rfl (any_of HT_.out (by kernel_rfl)) (fun _ _ _ h => h) (Or.inl ⟨by rfl, ?_⟩) ?_ ?_
        rotate_left
        · intro w'
          go_simp
          with_reducible rfl
        rotate_left
        · simp only [Act.put, List.setIfInBounds_toArray, List.set_cons_zero, List.set_cons_succ, i64_w, i32_w]
          rfl
        refine pure_ (i := 2) (N := some 132) (v := ?_) (a' := ?_) #[true, false, true, false, false, false, false, false, false, false, false] rfl rfl (any_of HT_.out (by kernel_rfl)) (fun _ _ _ h => h) (Or.inl ⟨by rfl, ?_⟩) ?_ ?_
        rotate_left
        · intro w'
          go_simp
          with_reducible rfl
        rotate_left
        · simp only [Act.put, List.setIfInBounds_toArray, List.set_cons_zero, List.set_cons_succ, i64_w, i32_w]
          rfl
        refine pure_ (i := 4) (N := some 134) (v := ?_) (a' := ?_) #[true, false, true, false, true, false, false, false, false, false, false] rfl rfl (any_of HT_.out (by kernel_rfl)) (fun _ _ _ h => h) (Or.inl ⟨by rfl, ?_⟩) ?_ ?_
        rotate_left
        · intro w'
          go_simp
          with_reducible rfl
        rotate_left
        · simp only [Act.put, List.setIfInBounds_toArray, List.set_cons_zero, List.set_cons_succ, i64_w, i32_w]
          rfl
        refine take_ (i := 1) (N := some 131) (v := ?_) (a' := ?_) #[true, true, true, false, true, false, false, false, false, false, false] rfl rfl (take_ofW HT_.out HW_.out (by kernel_rfl)) (fun _ _ _ h => h) (Or.inl ⟨by rfl, ?_⟩) hHeld ?_ ?_
        rotate_left
        · rintro w' ⟨s0, s1, s2, s3, s4, s5, s6, s7, s8, s9, s10, s11, s12, s13, s14, s15, s16, s17⟩
          go_simp
          with_reducible rfl
        rotate_left
        · simp only [Act.put, List.setIfInBounds_toArray, List.set_cons_zero, List.set_cons_succ, i64_w, i32_w]
          rfl
        refine take_ (i := 3) (N := some 133) (v := ?_) (a' := ?_) #[true, true, true, true, true, false, false, false, false, false, false] rfl rfl (take_ofW HT_.out HW_.out (by kernel_rfl)) (fun _ _ _ h => h) (Or.inl ⟨by rfl, ?_⟩) hHeld ?_ ?_
        rotate_left
        · rintro w' ⟨s0, s1, s2, s3, s4, s5, s6, s7, s8, s9, s10, s11, s12, s13, s14, s15, s16, s17⟩
          go_simp
          with_reducible rfl
        rotate_left
        · simp only [Act.put, List.setIfInBounds_toArray, List.set_cons_zero, List.set_cons_succ, i64_w, i32_w]
          rfl
        refine take_ (i := 5) (N := some 135) (v := ?_) (a' := ?_) #[true, true, true, true, true, true, false, false, false, false, false] rfl rfl (take_ofW HT_.out HW_.out (by kernel_rfl)) (fun _ _ _ h => h) (Or.inl ⟨by rfl, ?_⟩) hHeld ?_ ?_
        rotate_left
        · rintro w' ⟨s0, s1, s2, s3, s4, s5, s6, s7, s8, s9, s10, s11, s12, s13, s14, s15, s16, s17⟩
          go_simp
          with_reducible rfl
        rotate_left
        · simp only [Act.put, List.setIfInBounds_toArray, List.set_cons_zero, List.set_cons_succ, i64_w, i32_w]
          rfl
        refine one_ (i := 6) (N := some 136) #[true, true, true, true, true, true, true, false, false, false, false] rfl rfl (one_of HT_.out (by kernel_rfl)) (by decide) (fun K hK => ?_)
        refine goes_ Try.func24 (by kernel_rfl) rfl #[.int .i64 t115, .int .i64 a0_1] (by rfl) rfl rfl (by (try simp only [List.map_toArray, List.map_cons, List.map_nil]); first | done | rfl | (simp only [List.length_drop, List.length_take]; rfl)) ?_
        with_reducible refine (size_up.calls t115 a0_1 t123 _ A44.out).mono ?_
        rintro e w' ⟨rfl, ⟨nd, rfl⟩⟩
        refine ⟨_, rfl, ?_⟩
        refine hK.out _ _ ⟨(blk_cell BK111.out 0).trans rfl, (blk_cell BK111.out 1).trans rfl, (blk_cell BK111.out 2).trans rfl, (blk_cell BK111.out 3).trans rfl, (blk_cell BK111.out 4).trans rfl, (blk_cell BK111.out 5).trans rfl, (blk_cell BK111.out 6).trans rfl, (blk_cell BK111.out 7).trans rfl, (blk_cell BK111.out 8).trans rfl, (blk_cell BK111.out 9).trans rfl, (blk_cell BK111.out 10).trans rfl, (blk_cell BK103.out 0).trans rfl, (blk_cell BK103.out 1).trans rfl, (blk_cell BK103.out 2).trans rfl, (blk_cell BK103.out 3).trans rfl, (blk_cell BK103.out 4).trans rfl, (blk_cell BK103.out 5).trans rfl, (blk_cell BK103.out 6).trans rfl⟩ (fun hHeld => ?_)
        clear hK K
        refine norm_ (a' := ?_) ?_ ?_
        rotate_left
        · show Act.put _ (some 136) _ = _
          simp only [Act.put, List.setIfInBounds_toArray, List.set_cons_zero, List.set_cons_succ, i64_w, i32_w]
          rfl
        refine pure_ (i := 7) (N := some 137) (v := ?_) (a' := ?_) #[true, true, true, true, true, true, true, true, false, false, false] rfl rfl (any_of HT_.out (by kernel_rfl)) (fun _ _ _ h => h) (Or.inl ⟨by rfl, ?_⟩) ?_ ?_
        rotate_left
        · intro w'
          go_simp
          with_reducible rfl
        rotate_left
        · simp only [Act.put, List.setIfInBounds_toArray, List.set_cons_zero, List.set_cons_succ, i64_w, i32_w]
          rfl
        refine pure_ (i := 8) (N := some 138) (v := ?_) (a' := ?_) #[true, true, true, true, true, true, true, true, true, false, false] rfl rfl (any_of HT_.out (by kernel_rfl)) (fun _ _ _ h => h) (Or.inl ⟨by rfl, ?_⟩) ?_ ?_
        rotate_left
        · intro w'
          go_simp
          with_reducible rfl
        rotate_left
        · simp only [Act.put, List.setIfInBounds_toArray, List.set_cons_zero, List.set_cons_succ, i64_w, i32_w]
          rfl
        refine pure_ (i := 9) (N := some 139) (v := ?_) (a' := ?_) #[true, true, true, true, true, true, true, true, true, true, false] rfl rfl (any_of HT_.out (by kernel_rfl)) (fun _ _ _ h => h) (Or.inl ⟨by rfl, ?_⟩) ?_ ?_
        rotate_left
        · intro w'
          go_simp
          with_reducible rfl
        rotate_left
        · simp only [Act.put, List.setIfInBounds_toArray, List.set_cons_zero, List.set_cons_succ, i64_w, i32_w]
          rfl
        refine last_ (i := 10) (N := none) #[true, true, true, true, true, true, true, true, true, true, true] rfl rfl (one_of HT_.out (by kernel_rfl)) (by decide) (fun K hK => ?_)
        have hs79 : w78.cell? ⟨gb111, 7, none⟩ = some (.int .i64 0) := (blk_cell BK111.out 7).trans rfl
        have hfs79 := blk_frozen BK111.out 7
        have hns79_0 := NB103_111.out
        have hns79_1 := NB104_111.out
        have hms79_0 := NB111_103.out
        have hms79_1 := NB111_104.out
        refine skip_ (w1 := ?_) (by rfl) rfl ?_ ?_
        rotate_left
        · go_simp
          rfl
        refine hK.out _ _ ?_
        clear hK K
        refine done_ (done_of HT_.out (by kernel_rfl)) ?_
        have hcz80_0 : w78.cell? ⟨gb103, 0, none⟩ = some (.int .i64 a0_0) := (blk_cell BK103.out 0).trans rfl
        have hcz80_1 : w78.cell? ⟨gb103, 1, none⟩ = some (.int .i64 a0_1) := (blk_cell BK103.out 1).trans rfl
        have hcz80_2 : w78.cell? ⟨gb103, 2, none⟩ = some (.int .i64 a0_2) := (blk_cell BK103.out 2).trans rfl
        have hcz80_3 : w78.cell? ⟨gb103, 3, none⟩ = some (.int .i64 a0_3) := (blk_cell BK103.out 3).trans rfl
        have hcz80_4 : w78.cell? ⟨gb103, 4, none⟩ = some (.int .i64 a0_4) := (blk_cell BK103.out 4).trans rfl
        have hcz80_5 : w78.cell? ⟨gb103, 5, none⟩ = some (.int .i64 a0_5) := (blk_cell BK103.out 5).trans rfl
        have hcz80_6 : w78.cell? ⟨gb103, 6, none⟩ = some (.bool a0_6) := (blk_cell BK103.out 6).trans rfl
        have hfz80_0 := blk_frozen BK103.out 0
        have hfz80_1 := blk_frozen BK103.out 1
        have hfz80_2 := blk_frozen BK103.out 2
        have hfz80_3 := blk_frozen BK103.out 3
        have hfz80_4 := blk_frozen BK103.out 4
        have hfz80_5 := blk_frozen BK103.out 5
        have hfz80_6 := blk_frozen BK103.out 6
        try go_wp2_with (first | ((with_reducible refine gate_callee (f := 24) rfl ?_); refine goesL_ (some 144) rfl rfl Try.func24 (by kernel_rfl) rfl #[.int .i64 a0_2, .int .i64 a0_5] rfl (by (try simp only [List.map_toArray, List.map_cons, List.map_nil]); first | done | rfl | (simp only [List.length_drop, List.length_take]; rfl)) ?_; (with_reducible refine (size_up.calls a0_2 a0_5 t124 _ A45.out).mono ?_); rintro e w' ⟨rfl, ⟨nd, rfl⟩⟩; refine ⟨_, rfl, ?_⟩; have hcz81_0 : w78.cell? ⟨gb111, 0, none⟩ = some (.int .i64 (wrap64 ((wrap64 (2 * t112)) + t113))) := (blk_cell BK111.out 0).trans rfl; have hcz81_1 : w78.cell? ⟨gb111, 1, none⟩ = some (.int .i64 t115) := (blk_cell BK111.out 1).trans rfl; have hcz81_2 : w78.cell? ⟨gb111, 2, none⟩ = some (.int .i64 (wrap64 ((wrap64 (4 + a0_3)) + (ji37)))) := (blk_cell BK111.out 2).trans rfl; have hcz81_3 : w78.cell? ⟨gb111, 3, none⟩ = some (.int .i64 (wrap64 ((wrap64 (t117 + t118)) + t119))) := (blk_cell BK111.out 3).trans rfl; have hcz81_4 : w78.cell? ⟨gb111, 4, none⟩ = some (.int .i64 t121) := (blk_cell BK111.out 4).trans rfl; have hcz81_5 : w78.cell? ⟨gb111, 5, none⟩ = some (.int .i64 (wrap64 ((wrap64 ((wrap64 (2 * t121)) + a0_1)) + t115))) := (blk_cell BK111.out 5).trans rfl; have hcz81_6 : w78.cell? ⟨gb111, 6, none⟩ = some (.int .i64 t122) := (blk_cell BK111.out 6).trans rfl; have hcz81_7 : w78.cell? ⟨gb111, 7, none⟩ = some (.int .i64 0) := (blk_cell BK111.out 7).trans rfl; have hcz81_8 : w78.cell? ⟨gb111, 8, none⟩ = some (.int .i64 0) := (blk_cell BK111.out 8).trans rfl; have hcz81_9 : w78.cell? ⟨gb111, 9, none⟩ = some (.int .i64 0) := (blk_cell BK111.out 9).trans rfl; have hcz81_10 : w78.cell? ⟨gb111, 10, none⟩ = some (.int .i64 0) := (blk_cell BK111.out 10).trans rfl; have hfz81_0 := blk_frozen BK111.out 0; have hfz81_1 := blk_frozen BK111.out 1; have hfz81_2 := blk_frozen BK111.out 2; have hfz81_3 := blk_frozen BK111.out 3; have hfz81_4 := blk_frozen BK111.out 4; have hfz81_5 := blk_frozen BK111.out 5; have hfz81_6 := blk_frozen BK111.out 6; have hfz81_7 := blk_frozen BK111.out 7; have hfz81_8 := blk_frozen BK111.out 8; have hfz81_9 := blk_frozen BK111.out 9; have hfz81_10 := blk_frozen BK111.out 10))
        have n0_ : Aside0 (((w78.setCell ⟨gb111, 7, none⟩ (.int .i64 (wrap64 ((wrap64 (t122 + t123)) + 3)))).setCell ⟨gb111, 8, none⟩ (.int .i64 t124)).heap[gb103]? = some (.cells #[.int .i64 a0_0, .int .i64 a0_1, .int .i64 a0_2, .int .i64 a0_3, .int .i64 a0_4, .int .i64 a0_5, .bool a0_6] 29 (0, 0))) := ⟨by (with_reducible repeat (first | refine blk_drewN ?_ _ | refine blk_drew ?_ | refine blk_alloc ?_ _)); refine blk_far ?_ NB103_111.out _; (with_reducible repeat (first | refine blk_drewN ?_ _ | refine blk_drew ?_ | refine blk_alloc ?_ _)); refine blk_far ?_ NB103_111.out _; (with_reducible repeat (first | refine blk_drewN ?_ _ | refine blk_drew ?_ | refine blk_alloc ?_ _)); exact BK103.out⟩
        have n1_ : Aside0 (((w78.setCell ⟨gb111, 7, none⟩ (.int .i64 (wrap64 ((wrap64 (t122 + t123)) + 3)))).setCell ⟨gb111, 8, none⟩ (.int .i64 t124)).heap[gb104]? = some (.cells #[.int .i64 0, .int .i64 0, .int .i64 0, .int .i64 0, .int .i64 0, .int .i64 0, .int .i64 0, .int .i64 0, .int .i64 0, .int .i64 0, .int .i64 0] 24 (0, 0))) := ⟨by (with_reducible repeat (first | refine blk_drewN ?_ _ | refine blk_drew ?_ | refine blk_alloc ?_ _)); refine blk_far ?_ NB104_111.out _; (with_reducible repeat (first | refine blk_drewN ?_ _ | refine blk_drew ?_ | refine blk_alloc ?_ _)); refine blk_far ?_ NB104_111.out _; (with_reducible repeat (first | refine blk_drewN ?_ _ | refine blk_drew ?_ | refine blk_alloc ?_ _)); exact BK104.out⟩
        have n2_ : Aside0 (((w78.setCell ⟨gb111, 7, none⟩ (.int .i64 (wrap64 ((wrap64 (t122 + t123)) + 3)))).setCell ⟨gb111, 8, none⟩ (.int .i64 t124)).heap[gb111]? = some (.cells #[.int .i64 (wrap64 ((wrap64 (2 * t112)) + t113)), .int .i64 t115, .int .i64 (wrap64 ((wrap64 (4 + a0_3)) + (ji37))), .int .i64 (wrap64 ((wrap64 (t117 + t118)) + t119)), .int .i64 t121, .int .i64 (wrap64 ((wrap64 ((wrap64 (2 * t121)) + a0_1)) + t115)), .int .i64 t122, .int .i64 (wrap64 ((wrap64 (t122 + t123)) + 3)), .int .i64 t124, .int .i64 0, .int .i64 0] 24 (0, 0))) := ⟨by (with_reducible repeat (first | refine blk_drewN ?_ _ | refine blk_drew ?_ | refine blk_alloc ?_ _)); refine blk_put (cs := #[.int .i64 (wrap64 ((wrap64 (2 * t112)) + t113)), .int .i64 t115, .int .i64 (wrap64 ((wrap64 (4 + a0_3)) + (ji37))), .int .i64 (wrap64 ((wrap64 (t117 + t118)) + t119)), .int .i64 t121, .int .i64 (wrap64 ((wrap64 ((wrap64 (2 * t121)) + a0_1)) + t115)), .int .i64 t122, .int .i64 (wrap64 ((wrap64 (t122 + t123)) + 3)), .int .i64 0, .int .i64 0, .int .i64 0]) ?_ 8 _ rfl; (with_reducible repeat (first | refine blk_drewN ?_ _ | refine blk_drew ?_ | refine blk_alloc ?_ _)); refine blk_put (cs := #[.int .i64 (wrap64 ((wrap64 (2 * t112)) + t113)), .int .i64 t115, .int .i64 (wrap64 ((wrap64 (4 + a0_3)) + (ji37))), .int .i64 (wrap64 ((wrap64 (t117 + t118)) + t119)), .int .i64 t121, .int .i64 (wrap64 ((wrap64 ((wrap64 (2 * t121)) + a0_1)) + t115)), .int .i64 t122, .int .i64 0, .int .i64 0, .int .i64 0, .int .i64 0]) ?_ 7 _ rfl; (with_reducible repeat (first | refine blk_drewN ?_ _ | refine blk_drew ?_ | refine blk_alloc ?_ _)); exact BK111.out⟩
        have n3_ : Aside0 (Below w.heap.size w ((w78.setCell ⟨gb111, 7, none⟩ (.int .i64 (wrap64 ((wrap64 (t122 + t123)) + 3)))).setCell ⟨gb111, 8, none⟩ (.int .i64 t124))) := ⟨by repeat (first | (with_reducible first | exact HB.out | apply below_alloc | apply pw_below_drewN | apply below_drew1 | refine below_set ?_ GE103.out | refine below_set ?_ GE104.out | refine below_set ?_ GE111.out) | exact HB.out)⟩
        (try clear BK103)
        (try clear BK104)
        (try clear BK111)
        (try clear HB)
        generalize ((w78.setCell ⟨gb111, 7, none⟩ (.int .i64 (wrap64 ((wrap64 (t122 + t123)) + 3)))).setCell ⟨gb111, 8, none⟩ (.int .i64 t124)) = w82 at n0_ n1_ n2_ n3_ ⊢
        have BK103 := n0_
        have BK104 := n1_
        have BK111 := n2_
        have HB := n3_
        clear n0_ n1_ n2_ n3_
        (try (rw [drewN_self w82]; generalize hq_ : World.drewN w82 _ = w82; have n0_ : Aside0 (w82.heap[gb103]? = some (.cells #[.int .i64 a0_0, .int .i64 a0_1, .int .i64 a0_2, .int .i64 a0_3, .int .i64 a0_4, .int .i64 a0_5, .bool a0_6] 29 (0, 0))) := ⟨by rw [← hq_]; exact (by (with_reducible repeat (first | refine blk_drewN ?_ _ | refine blk_drew ?_ | refine blk_alloc ?_ _)); exact BK103.out)⟩; have n1_ : Aside0 (w82.heap[gb104]? = some (.cells #[.int .i64 0, .int .i64 0, .int .i64 0, .int .i64 0, .int .i64 0, .int .i64 0, .int .i64 0, .int .i64 0, .int .i64 0, .int .i64 0, .int .i64 0] 24 (0, 0))) := ⟨by rw [← hq_]; exact (by (with_reducible repeat (first | refine blk_drewN ?_ _ | refine blk_drew ?_ | refine blk_alloc ?_ _)); exact BK104.out)⟩; have n2_ : Aside0 (w82.heap[gb111]? = some (.cells #[.int .i64 (wrap64 ((wrap64 (2 * t112)) + t113)), .int .i64 t115, .int .i64 (wrap64 ((wrap64 (4 + a0_3)) + (ji37))), .int .i64 (wrap64 ((wrap64 (t117 + t118)) + t119)), .int .i64 t121, .int .i64 (wrap64 ((wrap64 ((wrap64 (2 * t121)) + a0_1)) + t115)), .int .i64 t122, .int .i64 (wrap64 ((wrap64 (t122 + t123)) + 3)), .int .i64 t124, .int .i64 0, .int .i64 0] 24 (0, 0))) := ⟨by rw [← hq_]; exact (by (with_reducible repeat (first | refine blk_drewN ?_ _ | refine blk_drew ?_ | refine blk_alloc ?_ _)); exact BK111.out)⟩; have n3_ : Aside0 (Below w.heap.size w w82) := ⟨by rw [← hq_]; exact (by repeat (first | (with_reducible first | exact HB.out | apply below_alloc | apply pw_below_drewN | apply below_drew1 | refine below_set ?_ GE103.out | refine below_set ?_ GE104.out | refine below_set ?_ GE111.out) | exact HB.out))⟩; clear BK103 BK104 BK111 HB hq_; have BK103 := n0_; have BK104 := n1_; have BK111 := n2_; have HB := n3_; clear n0_ n1_ n2_ n3_))
        have n0_ := Aside0.mk (blk_drew BK103.out)
        have n1_ := Aside0.mk (blk_drew BK104.out)
        have n2_ := Aside0.mk (blk_drew BK111.out)
        have n3_ := Aside0.mk (below_drew1 HB.out)
        clear BK103
        clear BK104
        clear BK111
        clear HB
        have BK103 := n0_
        have BK104 := n1_
        have BK111 := n2_
        have HB := n3_
        clear n0_ n1_ n2_ n3_
        refine start_ (n := 12) (S := fun w' => w'.cell? ⟨gb103, 0, none⟩ = some (.int .i64 a0_0) ∧ w'.cell? ⟨gb103, 1, none⟩ = some (.int .i64 a0_1) ∧ w'.cell? ⟨gb103, 2, none⟩ = some (.int .i64 a0_2) ∧ w'.cell? ⟨gb103, 3, none⟩ = some (.int .i64 a0_3) ∧ w'.cell? ⟨gb103, 4, none⟩ = some (.int .i64 a0_4) ∧ w'.cell? ⟨gb103, 5, none⟩ = some (.int .i64 a0_5) ∧ w'.cell? ⟨gb103, 6, none⟩ = some (.bool a0_6)) (ds := []) #[false, false, false, false, false, false, false, false, false, false, false, false] (by kernel_rfl) rfl rfl ⟨(blk_cell BK103.out 0).trans rfl, (blk_cell BK103.out 1).trans rfl, (blk_cell BK103.out 2).trans rfl, (blk_cell BK103.out 3).trans rfl, (blk_cell BK103.out 4).trans rfl, (blk_cell BK103.out 5).trans rfl, (blk_cell BK103.out 6).trans rfl⟩ (fun hHeld => ?_); refine with_tabW size_Of.tab14 size_Of.bits14 (fun HT_ HW_ => ?_)
        generalize w82.drew = w83 at BK103 BK104 BK111 HB hHeld ⊢
        refine pure_ (i := 0) (N := some 146) (v := ?_) (a' := ?_) #[true, false, false, false, false, false, false, false, false, false, false, false] rfl rfl (any_of HT_.out (by kernel_rfl)) (fun _ _ _ h => h) (Or.inl ⟨by rfl, ?_⟩) ?_ ?_
        rotate_left
        · intro w'
          go_simp
          with_reducible rfl
        rotate_left
        · simp only [Act.put, List.setIfInBounds_toArray, List.set_cons_zero, List.set_cons_succ, i64_w, i32_w]
          rfl
        refine pure_ (i := 2) (N := some 148) (v := ?_) (a' := ?_) #[true, false, true, false, false, false, false, false, false, false, false, false] rfl rfl (any_of HT_.out (by kernel_rfl)) (fun _ _ _ h => h) (Or.inl ⟨by rfl, ?_⟩) ?_ ?_
        rotate_left
        · intro w'
          go_simp
          with_reducible rfl
        rotate_left
        · simp only [Act.put, List.setIfInBounds_toArray, List.set_cons_zero, List.set_cons_succ, i64_w, i32_w]
          rfl
        refine pure_ (i := 6) (N := some 152) (v := ?_) (a' := ?_) #[true, false, true, false, false, false, true, false, false, false, false, false] rfl rfl (any_of HT_.out (by kernel_rfl)) (fun _ _ _ h => h) (Or.inl ⟨by rfl, ?_⟩) ?_ ?_
        rotate_left
        · intro w'
          go_simp
          with_reducible rfl
        rotate_left
        · simp only [Act.put, List.setIfInBounds_toArray, List.set_cons_zero, List.set_cons_succ, i64_w, i32_w]
          rfl
        refine take_ (i := 1) (N := some 147) (v := ?_) (a' := ?_) #[true, true, true, false, false, false, true, false, false, false, false, false] rfl rfl (take_ofW HT_.out HW_.out (by kernel_rfl)) (fun _ _ _ h => h) (Or.inl ⟨by rfl, ?_⟩) hHeld ?_ ?_
        rotate_left
        · rintro w' ⟨s0, s1, s2, s3, s4, s5, s6⟩
          go_simp
          with_reducible rfl
        rotate_left
        · simp only [Act.put, List.setIfInBounds_toArray, List.set_cons_zero, List.set_cons_succ, i64_w, i32_w]
          rfl
        refine take_ (i := 3) (N := some 149) (v := ?_) (a' := ?_) #[true, true, true, true, false, false, true, false, false, false, false, false] rfl rfl (take_ofW HT_.out HW_.out (by kernel_rfl)) (fun _ _ _ h => h) (Or.inl ⟨by rfl, ?_⟩) hHeld ?_ ?_
        rotate_left
        · rintro w' ⟨s0, s1, s2, s3, s4, s5, s6⟩
          go_simp
          with_reducible rfl
        rotate_left
        · simp only [Act.put, List.setIfInBounds_toArray, List.set_cons_zero, List.set_cons_succ, i64_w, i32_w]
          rfl
        refine take_ (i := 7) (N := some 153) (v := ?_) (a' := ?_) #[true, true, true, true, false, false, true, true, false, false, false, false] rfl rfl (take_ofW HT_.out HW_.out (by kernel_rfl)) (fun _ _ _ h => h) (Or.inl ⟨by rfl, ?_⟩) hHeld ?_ ?_
        rotate_left
        · rintro w' ⟨s0, s1, s2, s3, s4, s5, s6⟩
          go_simp
          with_reducible rfl
        rotate_left
        · simp only [Act.put, List.setIfInBounds_toArray, List.set_cons_zero, List.set_cons_succ, i64_w, i32_w]
          rfl
        refine pure_ (i := 8) (N := some 154) (v := ?_) (a' := ?_) #[true, true, true, true, false, false, true, true, true, false, false, false] rfl rfl (any_of HT_.out (by kernel_rfl)) (fun _ _ _ h => h) (Or.inl ⟨by rfl, ?_⟩) ?_ ?_
        rotate_left
        · intro w'
          go_simp
          with_reducible rfl
        rotate_left
        · simp only [Act.put, List.setIfInBounds_toArray, List.set_cons_zero, List.set_cons_succ, i64_w, i32_w]
          rfl
        refine one_ (i := 4) (N := some 150) #[true, true, true, true, true, false, true, true, true, false, false, false] rfl rfl (one_of HT_.out (by kernel_rfl)) (by decide) (fun K hK => ?_)
        refine goes_ Try.func24 (by kernel_rfl) rfl #[.int .i64 a0_2, .int .i64 a0_1] (by rfl) rfl rfl (by (try simp only [List.map_toArray, List.map_cons, List.map_nil]); first | done | rfl | (simp only [List.length_drop, List.length_take]; rfl)) ?_
        with_reducible refine (size_up.calls a0_2 a0_1 t125 _ A46.out).mono ?_
        rintro e w' ⟨rfl, ⟨nd, rfl⟩⟩
        refine ⟨_, rfl, ?_⟩
        refine hK.out _ _ ⟨(blk_cell BK103.out 0).trans rfl, (blk_cell BK103.out 1).trans rfl, (blk_cell BK103.out 2).trans rfl, (blk_cell BK103.out 3).trans rfl, (blk_cell BK103.out 4).trans rfl, (blk_cell BK103.out 5).trans rfl, (blk_cell BK103.out 6).trans rfl⟩ (fun hHeld => ?_)
        clear hK K
        refine norm_ (a' := ?_) ?_ ?_
        rotate_left
        · show Act.put _ (some 150) _ = _
          simp only [Act.put, List.setIfInBounds_toArray, List.set_cons_zero, List.set_cons_succ, i64_w, i32_w]
          rfl
        refine pure_ (i := 5) (N := some 151) (v := ?_) (a' := ?_) #[true, true, true, true, true, true, true, true, true, false, false, false] rfl rfl (any_of HT_.out (by kernel_rfl)) (fun _ _ _ h => h) (Or.inl ⟨by rfl, ?_⟩) ?_ ?_
        rotate_left
        · intro w'
          go_simp
          with_reducible rfl
        rotate_left
        · simp only [Act.put, List.setIfInBounds_toArray, List.set_cons_zero, List.set_cons_succ, i64_w, i32_w]
          rfl
        refine pure_ (i := 9) (N := some 155) (v := ?_) (a' := ?_) #[true, true, true, true, true, true, true, true, true, true, false, false] rfl rfl (any_of HT_.out (by kernel_rfl)) (fun _ _ _ h => h) (Or.inl ⟨by rfl, ?_⟩) ?_ ?_
        rotate_left
        · intro w'
          go_simp
          with_reducible rfl
        rotate_left
        · simp only [Act.put, List.setIfInBounds_toArray, List.set_cons_zero, List.set_cons_succ, i64_w, i32_w]
          rfl
        refine pure_ (i := 10) (N := some 156) (v := ?_) (a' := ?_) #[true, true, true, true, true, true, true, true, true, true, true, false] rfl rfl (any_of HT_.out (by kernel_rfl)) (fun _ _ _ h => h) (Or.inl ⟨by rfl, ?_⟩) ?_ ?_
        rotate_left
        · intro w'
          go_simp
          with_reducible rfl
        rotate_left
        · simp only [Act.put, List.setIfInBounds_toArray, List.set_cons_zero, List.set_cons_succ, i64_w, i32_w]
          rfl
        refine one_ (i := 11) (N := none) #[true, true, true, true, true, true, true, true, true, true, true, true] rfl rfl (one_of HT_.out (by kernel_rfl)) (by decide) (fun K hK => ?_)
        have hs84 : w83.cell? ⟨gb111, 9, none⟩ = some (.int .i64 0) := (blk_cell BK111.out 9).trans rfl
        have hfs84 := blk_frozen BK111.out 9
        have hns84_0 := NB103_111.out
        have hns84_1 := NB104_111.out
        have hms84_0 := NB111_103.out
        have hms84_1 := NB111_104.out
        refine skip_ (w1 := ?_) (by rfl) rfl ?_ ?_
        rotate_left
        · go_simp
          rfl
        refine hK.out _ _ ⟨((cell_far (p := ⟨gb111, _, none⟩) NB103_111.out _).trans (hHeld.1)), ((cell_far (p := ⟨gb111, _, none⟩) NB103_111.out _).trans (hHeld.2.1)), ((cell_far (p := ⟨gb111, _, none⟩) NB103_111.out _).trans (hHeld.2.2.1)), ((cell_far (p := ⟨gb111, _, none⟩) NB103_111.out _).trans (hHeld.2.2.2.1)), ((cell_far (p := ⟨gb111, _, none⟩) NB103_111.out _).trans (hHeld.2.2.2.2.1)), ((cell_far (p := ⟨gb111, _, none⟩) NB103_111.out _).trans (hHeld.2.2.2.2.2.1)), ((cell_far (p := ⟨gb111, _, none⟩) NB103_111.out _).trans (hHeld.2.2.2.2.2.2))⟩ (fun hHeld => ?_)
        clear hK K
        refine done_ (done_of HT_.out (by kernel_rfl)) ?_
        have hcz85_0 : w83.cell? ⟨gb103, 0, none⟩ = some (.int .i64 a0_0) := (blk_cell BK103.out 0).trans rfl
        have hcz85_1 : w83.cell? ⟨gb103, 1, none⟩ = some (.int .i64 a0_1) := (blk_cell BK103.out 1).trans rfl
        have hcz85_2 : w83.cell? ⟨gb103, 2, none⟩ = some (.int .i64 a0_2) := (blk_cell BK103.out 2).trans rfl
        have hcz85_3 : w83.cell? ⟨gb103, 3, none⟩ = some (.int .i64 a0_3) := (blk_cell BK103.out 3).trans rfl
        have hcz85_4 : w83.cell? ⟨gb103, 4, none⟩ = some (.int .i64 a0_4) := (blk_cell BK103.out 4).trans rfl
        have hcz85_5 : w83.cell? ⟨gb103, 5, none⟩ = some (.int .i64 a0_5) := (blk_cell BK103.out 5).trans rfl
        have hcz85_6 : w83.cell? ⟨gb103, 6, none⟩ = some (.bool a0_6) := (blk_cell BK103.out 6).trans rfl
        have hfz85_0 := blk_frozen BK103.out 0
        have hfz85_1 := blk_frozen BK103.out 1
        have hfz85_2 := blk_frozen BK103.out 2
        have hfz85_3 := blk_frozen BK103.out 3
        have hfz85_4 := blk_frozen BK103.out 4
        have hfz85_5 := blk_frozen BK103.out 5
        have hfz85_6 := blk_frozen BK103.out 6
        have hcz86_0 : w83.cell? ⟨gb111, 0, none⟩ = some (.int .i64 (wrap64 ((wrap64 (2 * t112)) + t113))) := (blk_cell BK111.out 0).trans rfl
        have hcz86_1 : w83.cell? ⟨gb111, 1, none⟩ = some (.int .i64 t115) := (blk_cell BK111.out 1).trans rfl
        have hcz86_2 : w83.cell? ⟨gb111, 2, none⟩ = some (.int .i64 (wrap64 ((wrap64 (4 + a0_3)) + (ji37)))) := (blk_cell BK111.out 2).trans rfl
        have hcz86_3 : w83.cell? ⟨gb111, 3, none⟩ = some (.int .i64 (wrap64 ((wrap64 (t117 + t118)) + t119))) := (blk_cell BK111.out 3).trans rfl
        have hcz86_4 : w83.cell? ⟨gb111, 4, none⟩ = some (.int .i64 t121) := (blk_cell BK111.out 4).trans rfl
        have hcz86_5 : w83.cell? ⟨gb111, 5, none⟩ = some (.int .i64 (wrap64 ((wrap64 ((wrap64 (2 * t121)) + a0_1)) + t115))) := (blk_cell BK111.out 5).trans rfl
        have hcz86_6 : w83.cell? ⟨gb111, 6, none⟩ = some (.int .i64 t122) := (blk_cell BK111.out 6).trans rfl
        have hcz86_7 : w83.cell? ⟨gb111, 7, none⟩ = some (.int .i64 (wrap64 ((wrap64 (t122 + t123)) + 3))) := (blk_cell BK111.out 7).trans rfl
        have hcz86_8 : w83.cell? ⟨gb111, 8, none⟩ = some (.int .i64 t124) := (blk_cell BK111.out 8).trans rfl
        have hcz86_9 : w83.cell? ⟨gb111, 9, none⟩ = some (.int .i64 0) := (blk_cell BK111.out 9).trans rfl
        have hcz86_10 : w83.cell? ⟨gb111, 10, none⟩ = some (.int .i64 0) := (blk_cell BK111.out 10).trans rfl
        have hfz86_0 := blk_frozen BK111.out 0
        have hfz86_1 := blk_frozen BK111.out 1
        have hfz86_2 := blk_frozen BK111.out 2
        have hfz86_3 := blk_frozen BK111.out 3
        have hfz86_4 := blk_frozen BK111.out 4
        have hfz86_5 := blk_frozen BK111.out 5
        have hfz86_6 := blk_frozen BK111.out 6
        have hfz86_7 := blk_frozen BK111.out 7
        have hfz86_8 := blk_frozen BK111.out 8
        have hfz86_9 := blk_frozen BK111.out 9
        have hfz86_10 := blk_frozen BK111.out 10
        have hcz87_0 : w83.cell? ⟨gb104, 0, none⟩ = some (.int .i64 0) := (blk_cell BK104.out 0).trans rfl
        have hcz87_1 : w83.cell? ⟨gb104, 1, none⟩ = some (.int .i64 0) := (blk_cell BK104.out 1).trans rfl
        have hcz87_2 : w83.cell? ⟨gb104, 2, none⟩ = some (.int .i64 0) := (blk_cell BK104.out 2).trans rfl
        have hcz87_3 : w83.cell? ⟨gb104, 3, none⟩ = some (.int .i64 0) := (blk_cell BK104.out 3).trans rfl
        have hcz87_4 : w83.cell? ⟨gb104, 4, none⟩ = some (.int .i64 0) := (blk_cell BK104.out 4).trans rfl
        have hcz87_5 : w83.cell? ⟨gb104, 5, none⟩ = some (.int .i64 0) := (blk_cell BK104.out 5).trans rfl
        have hcz87_6 : w83.cell? ⟨gb104, 6, none⟩ = some (.int .i64 0) := (blk_cell BK104.out 6).trans rfl
        have hcz87_7 : w83.cell? ⟨gb104, 7, none⟩ = some (.int .i64 0) := (blk_cell BK104.out 7).trans rfl
        have hcz87_8 : w83.cell? ⟨gb104, 8, none⟩ = some (.int .i64 0) := (blk_cell BK104.out 8).trans rfl
        have hcz87_9 : w83.cell? ⟨gb104, 9, none⟩ = some (.int .i64 0) := (blk_cell BK104.out 9).trans rfl
        have hcz87_10 : w83.cell? ⟨gb104, 10, none⟩ = some (.int .i64 0) := (blk_cell BK104.out 10).trans rfl
        have hfz87_0 := blk_frozen BK104.out 0
        have hfz87_1 := blk_frozen BK104.out 1
        have hfz87_2 := blk_frozen BK104.out 2
        have hfz87_3 := blk_frozen BK104.out 3
        have hfz87_4 := blk_frozen BK104.out 4
        have hfz87_5 := blk_frozen BK104.out 5
        have hfz87_6 := blk_frozen BK104.out 6
        have hfz87_7 := blk_frozen BK104.out 7
        have hfz87_8 := blk_frozen BK104.out 8
        have hfz87_9 := blk_frozen BK104.out 9
        have hfz87_10 := blk_frozen BK104.out 10
        try go_wp2
        refine bodyPost_ret (results_ct rfl _ _ gb104 24 #[.int .i64 (wrap64 ((wrap64 (2 * t112)) + t113)), .int .i64 t115, .int .i64 (wrap64 ((wrap64 (4 + a0_3)) + (ji37))), .int .i64 (wrap64 ((wrap64 (t117 + t118)) + t119)), .int .i64 t121, .int .i64 (wrap64 ((wrap64 ((wrap64 (2 * t121)) + a0_1)) + t115)), .int .i64 t122, .int .i64 (wrap64 ((wrap64 (t122 + t123)) + 3)), .int .i64 t124, .int .i64 (wrap64 ((wrap64 (t125 + 8)) + (wrap64 (4 * a0_3)))), .int .i64 (wrap64 (a0_0 + (wrap64 ((wrap64 (2 * a0_1)) * (wrap64 ((wrap64 (t122 + 2)) + a0_3))))))] (0, 0) _ rfl (by (with_reducible repeat (first | refine blk_drewN ?_ _ | refine blk_drew ?_ | refine blk_alloc ?_ _)); refine blk_put (cs := #[.int .i64 (wrap64 ((wrap64 (2 * t112)) + t113)), .int .i64 t115, .int .i64 (wrap64 ((wrap64 (4 + a0_3)) + (ji37))), .int .i64 (wrap64 ((wrap64 (t117 + t118)) + t119)), .int .i64 t121, .int .i64 (wrap64 ((wrap64 ((wrap64 (2 * t121)) + a0_1)) + t115)), .int .i64 t122, .int .i64 (wrap64 ((wrap64 (t122 + t123)) + 3)), .int .i64 t124, .int .i64 (wrap64 ((wrap64 (t125 + 8)) + (wrap64 (4 * a0_3)))), .int .i64 0]) ?_ 10 _ rfl; (with_reducible repeat (first | refine blk_drewN ?_ _ | refine blk_drew ?_ | refine blk_alloc ?_ _)); refine blk_put (cs := #[.int .i64 (wrap64 ((wrap64 (2 * t112)) + t113)), .int .i64 t115, .int .i64 (wrap64 ((wrap64 (4 + a0_3)) + (ji37))), .int .i64 (wrap64 ((wrap64 (t117 + t118)) + t119)), .int .i64 t121, .int .i64 (wrap64 ((wrap64 ((wrap64 (2 * t121)) + a0_1)) + t115)), .int .i64 t122, .int .i64 (wrap64 ((wrap64 (t122 + t123)) + 3)), .int .i64 t124, .int .i64 0, .int .i64 0]) ?_ 9 _ rfl; (with_reducible repeat (first | refine blk_drewN ?_ _ | refine blk_drew ?_ | refine blk_alloc ?_ _)); refine blk_put (cs := #[.int .i64 (wrap64 ((wrap64 (2 * t112)) + t113)), .int .i64 t115, .int .i64 (wrap64 ((wrap64 (4 + a0_3)) + (ji37))), .int .i64 (wrap64 ((wrap64 (t117 + t118)) + t119)), .int .i64 t121, .int .i64 (wrap64 ((wrap64 ((wrap64 (2 * t121)) + a0_1)) + t115)), .int .i64 t122, .int .i64 (wrap64 ((wrap64 (t122 + t123)) + 3)), .int .i64 0, .int .i64 0, .int .i64 0]) ?_ 8 _ rfl; (with_reducible repeat (first | refine blk_drewN ?_ _ | refine blk_drew ?_ | refine blk_alloc ?_ _)); refine blk_put (cs := #[.int .i64 (wrap64 ((wrap64 (2 * t112)) + t113)), .int .i64 t115, .int .i64 (wrap64 ((wrap64 (4 + a0_3)) + (ji37))), .int .i64 (wrap64 ((wrap64 (t117 + t118)) + t119)), .int .i64 t121, .int .i64 (wrap64 ((wrap64 ((wrap64 (2 * t121)) + a0_1)) + t115)), .int .i64 t122, .int .i64 0, .int .i64 0, .int .i64 0, .int .i64 0]) ?_ 7 _ rfl; (with_reducible repeat (first | refine blk_drewN ?_ _ | refine blk_drew ?_ | refine blk_alloc ?_ _)); refine blk_put (cs := #[.int .i64 (wrap64 ((wrap64 (2 * t112)) + t113)), .int .i64 t115, .int .i64 (wrap64 ((wrap64 (4 + a0_3)) + (ji37))), .int .i64 (wrap64 ((wrap64 (t117 + t118)) + t119)), .int .i64 t121, .int .i64 (wrap64 ((wrap64 ((wrap64 (2 * t121)) + a0_1)) + t115)), .int .i64 0, .int .i64 0, .int .i64 0, .int .i64 0, .int .i64 0]) ?_ 6 _ rfl; (with_reducible repeat (first | refine blk_drewN ?_ _ | refine blk_drew ?_ | refine blk_alloc ?_ _)); refine blk_put (cs := #[.int .i64 (wrap64 ((wrap64 (2 * t112)) + t113)), .int .i64 t115, .int .i64 (wrap64 ((wrap64 (4 + a0_3)) + (ji37))), .int .i64 (wrap64 ((wrap64 (t117 + t118)) + t119)), .int .i64 t121, .int .i64 0, .int .i64 0, .int .i64 0, .int .i64 0, .int .i64 0, .int .i64 0]) ?_ 5 _ rfl; (with_reducible repeat (first | refine blk_drewN ?_ _ | refine blk_drew ?_ | refine blk_alloc ?_ _)); refine blk_put (cs := #[.int .i64 (wrap64 ((wrap64 (2 * t112)) + t113)), .int .i64 t115, .int .i64 (wrap64 ((wrap64 (4 + a0_3)) + (ji37))), .int .i64 (wrap64 ((wrap64 (t117 + t118)) + t119)), .int .i64 0, .int .i64 0, .int .i64 0, .int .i64 0, .int .i64 0, .int .i64 0, .int .i64 0]) ?_ 4 _ rfl; (with_reducible repeat (first | refine blk_drewN ?_ _ | refine blk_drew ?_ | refine blk_alloc ?_ _)); refine blk_put (cs := #[.int .i64 (wrap64 ((wrap64 (2 * t112)) + t113)), .int .i64 t115, .int .i64 (wrap64 ((wrap64 (4 + a0_3)) + (ji37))), .int .i64 0, .int .i64 0, .int .i64 0, .int .i64 0, .int .i64 0, .int .i64 0, .int .i64 0, .int .i64 0]) ?_ 3 _ rfl; (with_reducible repeat (first | refine blk_drewN ?_ _ | refine blk_drew ?_ | refine blk_alloc ?_ _)); refine blk_put (cs := #[.int .i64 (wrap64 ((wrap64 (2 * t112)) + t113)), .int .i64 t115, .int .i64 0, .int .i64 0, .int .i64 0, .int .i64 0, .int .i64 0, .int .i64 0, .int .i64 0, .int .i64 0, .int .i64 0]) ?_ 2 _ rfl; (with_reducible repeat (first | refine blk_drewN ?_ _ | refine blk_drew ?_ | refine blk_alloc ?_ _)); refine blk_put (cs := #[.int .i64 (wrap64 ((wrap64 (2 * t112)) + t113)), .int .i64 0, .int .i64 0, .int .i64 0, .int .i64 0, .int .i64 0, .int .i64 0, .int .i64 0, .int .i64 0, .int .i64 0, .int .i64 0]) ?_ 1 _ rfl; (with_reducible repeat (first | refine blk_drewN ?_ _ | refine blk_drew ?_ | refine blk_alloc ?_ _)); refine blk_put (cs := #[.int .i64 0, .int .i64 0, .int .i64 0, .int .i64 0, .int .i64 0, .int .i64 0, .int .i64 0, .int .i64 0, .int .i64 0, .int .i64 0, .int .i64 0]) ?_ 0 _ rfl; (with_reducible repeat (first | refine blk_drewN ?_ _ | refine blk_drew ?_ | refine blk_alloc ?_ _)); refine blk_far ?_ NB104_111.out _; (with_reducible repeat (first | refine blk_drewN ?_ _ | refine blk_drew ?_ | refine blk_alloc ?_ _)); refine blk_far ?_ NB104_111.out _; (with_reducible repeat (first | refine blk_drewN ?_ _ | refine blk_drew ?_ | refine blk_alloc ?_ _)); exact BK104.out) Try.underlying24 rfl (by kernel_rfl)) rfl ?_
        exact ⟨by first | rfl | (simp [errW_none, errW_some] <;> rfl) | (simp only [← hji37]; first | rfl | (simp [errW_none, errW_some] <;> rfl)) | (simp [*, errW_none, errW_some] <;> rfl), by repeat (first | (with_reducible first | exact HB.out | apply below_alloc | apply pw_below_drewN | apply below_drew1 | refine below_set ?_ GE103.out | refine below_set ?_ GE104.out | refine below_set ?_ GE111.out) | exact HB.out)⟩

end Go.Proofs.Ytbeaekknpejnlaa.PSizeKnown
