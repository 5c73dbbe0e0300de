-- By a program of this session (NOTES.md). Lean checks it.
import Derived.Test.YtigecigoomofdaaPWindowTellsx0
namespace Go.Proofs.Ytigecigoomofdaa.PWindowTells
open Go.RowKit Go.Proofs.YtigecigoomofdaaW.PrintWords Go.Proofs.YtigecigoomofdaaW.PrintLast Go.Proofs.YtigecigoomofdaaW.PrintMore
attribute [local go_sem] max2_int min2_int max_two min_two max_three min_three max_four min_four   -- for this text's walks alone
set_option linter.unusedVariables false
set_option linter.unusedSimpArgs false

/-! ### span_Form: function 18 -/
mutual
def span_Form.l0 : Nat → List (S39) → List (S39) → Int → Int → Option (Bool)
  | 0, _, _, _, _ => none
  | k + 1, x0, x7, x8, x9 => if x9 < x8 then (if 0 ≤ x9 then (if x9 < (x7.length : Int) then (if ((rd_T39 x7 x9).f0) < 0 then (span_Form.j1 k x0 x9 x7 x8 x9 true ((rd_T39 x7 x9).f0) ((rd_T39 x7 x9).f1) ((rd_T39 x7 x9).f2)) else (if ((rd_T39 x7 x9).f0) > 1073741824 then (span_Form.j1 k x0 x9 x7 x8 x9 true ((rd_T39 x7 x9).f0) ((rd_T39 x7 x9).f1) ((rd_T39 x7 x9).f2)) else (if ((rd_T39 x7 x9).f2) < 0 then (span_Form.j1 k x0 x9 x7 x8 x9 true ((rd_T39 x7 x9).f0) ((rd_T39 x7 x9).f1) ((rd_T39 x7 x9).f2)) else (if ((rd_T39 x7 x9).f2) > 1073741824 then (span_Form.j1 k x0 x9 x7 x8 x9 true ((rd_T39 x7 x9).f0) ((rd_T39 x7 x9).f1) ((rd_T39 x7 x9).f2)) else (if ((rd_T39 x7 x9).f1) < 1 then (span_Form.j1 k x0 x9 x7 x8 x9 true ((rd_T39 x7 x9).f0) ((rd_T39 x7 x9).f1) ((rd_T39 x7 x9).f2)) else (span_Form.j1 k x0 x9 x7 x8 x9 (decide (((rd_T39 x7 x9).f1) > 1073741824)) ((rd_T39 x7 x9).f0) ((rd_T39 x7 x9).f1) ((rd_T39 x7 x9).f2))))))) else (none)) else (none)) else (some true)
def span_Form.j1 : Nat → List (S39) → Int → List (S39) → Int → Int → Bool → Int → Int → Int → Option (Bool)
  | 0, _, _, _, _, _, _, _, _, _ => none
  | k + 1, x0, x3, x7, x8, x9, x41, x103000, x103001, x103002 => if x41 = true then (some false) else (if x3 = 0 then (span_Form.l0 k x0 x7 x8 (wrap64 (x9 + 1))) else (if 0 ≤ (wrap64 (x3 - 1)) then (if (wrap64 (x3 - 1)) < (x0.length : Int) then (if (wrap64 (x103000 - ((rd_T39 x0 (wrap64 (x3 - 1))).f0))) < ((rd_T39 x0 (wrap64 (x3 - 1))).f1) then (some false) else (if (wrap64 (x103000 - ((rd_T39 x0 (wrap64 (x3 - 1))).f0))) = ((rd_T39 x0 (wrap64 (x3 - 1))).f1) then (if (wrap64 (x103002 - ((rd_T39 x0 (wrap64 (x3 - 1))).f2))) = ((rd_T39 x0 (wrap64 (x3 - 1))).f1) then (some false) else (span_Form.l0 k x0 x7 x8 (wrap64 (x9 + 1)))) else (span_Form.l0 k x0 x7 x8 (wrap64 (x9 + 1))))) else (none)) else (none)))
end
def span_Form.f (k : Nat) (l0 : List (S39)) : Option (Bool) := span_Form.l0 k l0 l0 (l0.length : Int) 0
theorem span_Form.mono_l : ∀ k, (∀ y0 y1 y2 y3, LeO (span_Form.l0 k y0 y1 y2 y3) (span_Form.l0 (k + 1) y0 y1 y2 y3)) ∧ (∀ y0 y1 y2 y3 y4 y5 y6 y7 y8, LeO (span_Form.j1 k y0 y1 y2 y3 y4 y5 y6 y7 y8) (span_Form.j1 (k + 1) y0 y1 y2 y3 y4 y5 y6 y7 y8))
  | 0 => ⟨fun _ _ _ _ r h => by simp [span_Form.l0] at h, fun _ _ _ _ _ _ _ _ _ r h => by simp [span_Form.j1] at h⟩
  | k + 1 => by
    obtain ⟨ih0, ih1⟩ := span_Form.mono_l k
    refine ⟨?_, ?_⟩
    · intro y0 y1 y2 y3
      unfold span_Form.l0
      repeat' first
      | (with_reducible exact ih0 _ _ _ _)
      | (with_reducible exact ih1 _ _ _ _ _ _ _ _ _)
      | (with_reducible exact LeO.refl _)
      | (with_reducible exact LeO.none _)
      | (with_reducible refine LeO.ite ?_ ?_)
      | (with_reducible refine LeO.bind ?_ (fun _ => ?_))
      | exact ih0 _ _ _ _
      | exact ih1 _ _ _ _ _ _ _ _ _
      | exact LeO.none _
      | refine LeO.ite ?_ ?_
      | refine LeO.bind ?_ (fun _ => ?_)
    · intro y0 y1 y2 y3 y4 y5 y6 y7 y8
      unfold span_Form.j1
      repeat' first
      | (with_reducible exact ih0 _ _ _ _)
      | (with_reducible exact ih1 _ _ _ _ _ _ _ _ _)
      | (with_reducible exact LeO.refl _)
      | (with_reducible exact LeO.none _)
      | (with_reducible refine LeO.ite ?_ ?_)
      | (with_reducible refine LeO.bind ?_ (fun _ => ?_))
      | exact ih0 _ _ _ _
      | exact ih1 _ _ _ _ _ _ _ _ _
      | exact LeO.none _
      | refine LeO.ite ?_ ?_
      | refine LeO.bind ?_ (fun _ => ?_)
theorem span_Form.mono : ∀ a0 k, LeO (span_Form.f k a0) (span_Form.f (k + 1) a0) := by
  intro a0 k
  obtain ⟨ih0, ih1⟩ := span_Form.mono_l k
  unfold span_Form.f
  repeat' first
      | (with_reducible exact ih0 _ _ _ _)
      | (with_reducible exact ih1 _ _ _ _ _ _ _ _ _)
      | (with_reducible exact LeO.refl _)
      | (with_reducible exact LeO.none _)
      | (with_reducible refine LeO.ite ?_ ?_)
      | (with_reducible refine LeO.bind ?_ (fun _ => ?_))
      | exact ih0 _ _ _ _
      | exact ih1 _ _ _ _ _ _ _ _ _
      | exact LeO.none _
      | refine LeO.ite ?_ ?_
      | refine LeO.bind ?_ (fun _ => ?_)
set_option maxHeartbeats 8000000 in
set_option maxRecDepth 100000 in
theorem span_Form.calls (k : Nat) (A0 : Option Addr) (c0 : Nat) (l0 : List (S39)) (r : Bool) (w : World) (hr0 : Kd.C k39 w A0 l0.length l0) (hc0 : l0.length ≤ c0) (h : span_Form.f k l0 = some r) :
    Calls Try.prog 18 #[.slice A0 l0.length c0] w fun e w' => e = .returned (.bool r) ∧ Below w.heap.size w w' := by
 have hu39 := Try.underlying39
 have HR0 := Aside0.mk hr0
 have HC0 := Aside0.mk hc0
 clear hr0 hc0
 have HB := Aside0.mk (Below.refl w.heap.size w)
 have H : (span_Form.l0 k l0 l0 (l0.length : Int) 0) = some r := h
 clear h
 have H' := Aside0.mk H
 clear H
 go_enter Try.func18, Try.ntmps18
 go_wp2
 go_loopg [9] k (fun kq v9 w' => ∃ (x9_1 : Int), v9 = .int .i64 x9_1 ∧ Aside0 (span_Form.l0 kq l0 l0 (l0.length : Int) x9_1 = some r) ∧ Aside0 (kq ≤ k) ∧ Aside0 (Below w.heap.size w w'))
 case atStart => exact ⟨(0), (by first | rfl | (simp; done) | (simp [*]; done)), H', ⟨Nat.le_refl _⟩, ⟨by repeat with_reducible first | exact HB.out | apply below_alloc | apply pw_below_drewN | apply below_drew1⟩⟩
 case round =>
  clear H'
  try clear c1
  obtain ⟨x9_1, rfl, HA, HK1, HB⟩ := hrel
  cases gk with
  | zero => exact absurd HA.out (by simp [span_Form.l0])
  | succ k1 =>
    have H := HA.out
    clear HA
    simp only [span_Form.l0] at H
    by_cases c2 : x9_1 < (l0.length : Int)
    · rw [if_pos c2] at H
      have c2b0 : decide (x9_1 < (l0.length : Int)) = true := decide_eq_true c2
      clear c2
      by_cases c3 : 0 ≤ x9_1
      · rw [if_pos c3] at H
        have c3b0 : decide (0 ≤ x9_1) = true := decide_eq_true c3
        clear c3
        by_cases c4 : x9_1 < (l0.length : Int)
        · rw [if_pos c4] at H
          have c4b0 : decide (x9_1 < (l0.length : Int)) = true := decide_eq_true c4
          clear c4
          have HC5 := Aside0.mk H
          clear H
          have p101 : 0 ≤ (x9_1 : Int) := of_decide_eq_true (by with_reducible assumption)
          have q101 : x9_1 < (l0.length : Int) := of_decide_eq_true (by with_reducible assumption)
          obtain ⟨ad101, e101, hx101_0, hx101_1, hx101_2⟩ := at_T39 HR0.out x9_1 p101 q101
          cases e101
          replace hx101_0 := (HB.out.cell (World.block_lt_of_cell? w _ hx101_0)).trans hx101_0
          replace hx101_1 := (HB.out.cell (World.block_lt_of_cell? w _ hx101_1)).trans hx101_1
          replace hx101_2 := (HB.out.cell (World.block_lt_of_cell? w _ hx101_2)).trans hx101_2
          replace p101 := eq_true p101
          replace q101 := eq_true q101
          go_upto_region 4 with (first | ((with_reducible refine gate_dst (N := 4) rfl ?_); refine box_event ?hg (N := 4) ?hd (cs := #[.int .i64 0, .int .i64 0, .int .i64 0]) (t := 39) ?hr ?_; (case hd => rfl); (case hg => rfl); (case hr => first | (go_simp; done) | (go_simp; rfl)); intro gb102 hg w6 hbox hb; have n0_ := Aside0.mk (below_step (by repeat with_reducible first | exact HB.out | apply below_alloc | apply pw_below_drewN | apply below_drew1) hb); have n1_ := Aside0.mk (hbox); have n2_ := Aside0.mk ((by rw [hg]; exact (below_size (by repeat with_reducible first | exact HB.out | apply below_alloc | apply pw_below_drewN | apply below_drew1)) : w.heap.size ≤ gb102)); have n3_ := Aside0.mk ((by rw [hg]; exact (below_size (by repeat with_reducible first | exact HB.out | apply below_alloc | apply pw_below_drewN | apply below_drew1)) : w.heap.size ≤ gb102)); clear HB; have HB := n0_; have BK102 := n1_; have GW102 := n2_; have GE102 := n3_; clear n0_ n1_ n2_ n3_; clear hb hbox hg; have hcz7_0 : w6.cell? ⟨gb102, 0, none⟩ = some (.int .i64 0) := (blk_cell BK102.out 0).trans rfl; have hcz7_1 : w6.cell? ⟨gb102, 1, none⟩ = some (.int .i64 0) := (blk_cell BK102.out 1).trans rfl; have hcz7_2 : w6.cell? ⟨gb102, 2, none⟩ = some (.int .i64 0) := (blk_cell BK102.out 2).trans rfl; have hfz7_0 := blk_frozen BK102.out 0; have hfz7_1 := blk_frozen BK102.out 1; have hfz7_2 := blk_frozen BK102.out 2))
          (try simp only [Act.put, List.setIfInBounds_toArray, List.set_cons_zero, List.set_cons_succ])
          go_cut [41] (fun v41 wc => ∃ (kq : Nat) (x41_4 : Bool), v41 = .bool x41_4 ∧ Aside0 (span_Form.j1 kq l0 x9_1 l0 (l0.length : Int) x9_1 x41_4 ((rd_T39 l0 x9_1).f0) ((rd_T39 l0 x9_1).f1) ((rd_T39 l0 x9_1).f2) = some r) ∧ Aside0 (kq ≤ k1) ∧ Aside0 (wc.heap[gb102]? = some (.cells #[.int .i64 ((rd_T39 l0 x9_1).f0), .int .i64 ((rd_T39 l0 x9_1).f1), .int .i64 ((rd_T39 l0 x9_1).f2)] 39 (0, 0))) ∧ Aside0 (Below w.heap.size w wc))
          case first =>
            have H := HC5.out
            clear HC5
            by_cases c8 : ((rd_T39 l0 x9_1).f0) < 0
            · rw [if_pos c8] at H
              have c8b0 : decide (((rd_T39 l0 x9_1).f0) < 0) = true := decide_eq_true c8
              clear c8
              (first | rw [c8b0] | (simp only [i64_w, i32_w]; rw [c8b0]) | skip)
              have H' := Aside0.mk H
              clear H
              have hcz9_0 : w6.cell? ⟨gb102, 0, none⟩ = some (.int .i64 0) := (blk_cell BK102.out 0).trans rfl
              have hcz9_1 : w6.cell? ⟨gb102, 1, none⟩ = some (.int .i64 0) := (blk_cell BK102.out 1).trans rfl
              have hcz9_2 : w6.cell? ⟨gb102, 2, none⟩ = some (.int .i64 0) := (blk_cell BK102.out 2).trans rfl
              have hfz9_0 := blk_frozen BK102.out 0
              have hfz9_1 := blk_frozen BK102.out 1
              have hfz9_2 := blk_frozen BK102.out 2
              go_wp2
              go_meet
              case rel => exact ⟨_, (true), (by first | rfl | (simp; done) | (simp [*]; done)), H', ⟨by have := HK1.out; first | omega | exact Nat.le_refl _⟩, ⟨by (with_reducible repeat (first | refine blk_drewN ?_ _ | refine blk_drew ?_ | refine blk_alloc ?_ _)); refine blk_put (cs := #[.int .i64 ((rd_T39 l0 x9_1).f0), .int .i64 ((rd_T39 l0 x9_1).f1), .int .i64 0]) ?_ 2 _ rfl; (with_reducible repeat (first | refine blk_drewN ?_ _ | refine blk_drew ?_ | refine blk_alloc ?_ _)); refine blk_put (cs := #[.int .i64 ((rd_T39 l0 x9_1).f0), .int .i64 0, .int .i64 0]) ?_ 1 _ rfl; (with_reducible repeat (first | refine blk_drewN ?_ _ | refine blk_drew ?_ | refine blk_alloc ?_ _)); refine blk_put (cs := #[.int .i64 0, .int .i64 0, .int .i64 0]) ?_ 0 _ rfl; (with_reducible repeat (first | refine blk_drewN ?_ _ | refine blk_drew ?_ | refine blk_alloc ?_ _)); exact BK102.out⟩, ⟨by repeat (first | (with_reducible first | exact HB.out | apply below_alloc | apply pw_below_drewN | apply below_drew1 | refine below_set ?_ GE102.out) | exact HB.out)⟩⟩
            · rw [if_neg c8] at H
              have c8b0 : decide (((rd_T39 l0 x9_1).f0) < 0) = false := decide_eq_false c8
              clear c8
              (first | rw [c8b0] | (simp only [i64_w, i32_w]; rw [c8b0]) | skip)
              by_cases c10 : ((rd_T39 l0 x9_1).f0) > 1073741824
              · rw [if_pos c10] at H
                have c10b0 : decide (1073741824 < ((rd_T39 l0 x9_1).f0)) = true := decide_eq_true c10
                clear c10
                have H' := Aside0.mk H
                clear H
                have hcz11_0 : w6.cell? ⟨gb102, 0, none⟩ = some (.int .i64 0) := (blk_cell BK102.out 0).trans rfl
                have hcz11_1 : w6.cell? ⟨gb102, 1, none⟩ = some (.int .i64 0) := (blk_cell BK102.out 1).trans rfl
                have hcz11_2 : w6.cell? ⟨gb102, 2, none⟩ = some (.int .i64 0) := (blk_cell BK102.out 2).trans rfl
                have hfz11_0 := blk_frozen BK102.out 0
                have hfz11_1 := blk_frozen BK102.out 1
                have hfz11_2 := blk_frozen BK102.out 2
                go_wp2
                go_meet
                case rel => exact ⟨_, (true), (by first | rfl | (simp; done) | (simp [*]; done)), H', ⟨by have := HK1.out; first | omega | exact Nat.le_refl _⟩, ⟨by (with_reducible repeat (first | refine blk_drewN ?_ _ | refine blk_drew ?_ | refine blk_alloc ?_ _)); refine blk_put (cs := #[.int .i64 ((rd_T39 l0 x9_1).f0), .int .i64 ((rd_T39 l0 x9_1).f1), .int .i64 0]) ?_ 2 _ rfl; (with_reducible repeat (first | refine blk_drewN ?_ _ | refine blk_drew ?_ | refine blk_alloc ?_ _)); refine blk_put (cs := #[.int .i64 ((rd_T39 l0 x9_1).f0), .int .i64 0, .int .i64 0]) ?_ 1 _ rfl; (with_reducible repeat (first | refine blk_drewN ?_ _ | refine blk_drew ?_ | refine blk_alloc ?_ _)); refine blk_put (cs := #[.int .i64 0, .int .i64 0, .int .i64 0]) ?_ 0 _ rfl; (with_reducible repeat (first | refine blk_drewN ?_ _ | refine blk_drew ?_ | refine blk_alloc ?_ _)); exact BK102.out⟩, ⟨by repeat (first | (with_reducible first | exact HB.out | apply below_alloc | apply pw_below_drewN | apply below_drew1 | refine below_set ?_ GE102.out) | exact HB.out)⟩⟩
              · rw [if_neg c10] at H
                have c10b0 : decide (1073741824 < ((rd_T39 l0 x9_1).f0)) = false := decide_eq_false c10
                clear c10
                by_cases c12 : ((rd_T39 l0 x9_1).f2) < 0
                · rw [if_pos c12] at H
                  have c12b0 : decide (((rd_T39 l0 x9_1).f2) < 0) = true := decide_eq_true c12
                  clear c12
                  have H' := Aside0.mk H
                  clear H
                  have hcz13_0 : w6.cell? ⟨gb102, 0, none⟩ = some (.int .i64 0) := (blk_cell BK102.out 0).trans rfl
                  have hcz13_1 : w6.cell? ⟨gb102, 1, none⟩ = some (.int .i64 0) := (blk_cell BK102.out 1).trans rfl
                  have hcz13_2 : w6.cell? ⟨gb102, 2, none⟩ = some (.int .i64 0) := (blk_cell BK102.out 2).trans rfl
                  have hfz13_0 := blk_frozen BK102.out 0
                  have hfz13_1 := blk_frozen BK102.out 1
                  have hfz13_2 := blk_frozen BK102.out 2
                  go_wp2
                  go_meet
                  case rel => exact ⟨_, (true), (by first | rfl | (simp; done) | (simp [*]; done)), H', ⟨by have := HK1.out; first | omega | exact Nat.le_refl _⟩, ⟨by (with_reducible repeat (first | refine blk_drewN ?_ _ | refine blk_drew ?_ | refine blk_alloc ?_ _)); refine blk_put (cs := #[.int .i64 ((rd_T39 l0 x9_1).f0), .int .i64 ((rd_T39 l0 x9_1).f1), .int .i64 0]) ?_ 2 _ rfl; (with_reducible repeat (first | refine blk_drewN ?_ _ | refine blk_drew ?_ | refine blk_alloc ?_ _)); refine blk_put (cs := #[.int .i64 ((rd_T39 l0 x9_1).f0), .int .i64 0, .int .i64 0]) ?_ 1 _ rfl; (with_reducible repeat (first | refine blk_drewN ?_ _ | refine blk_drew ?_ | refine blk_alloc ?_ _)); refine blk_put (cs := #[.int .i64 0, .int .i64 0, .int .i64 0]) ?_ 0 _ rfl; (with_reducible repeat (first | refine blk_drewN ?_ _ | refine blk_drew ?_ | refine blk_alloc ?_ _)); exact BK102.out⟩, ⟨by repeat (first | (with_reducible first | exact HB.out | apply below_alloc | apply pw_below_drewN | apply below_drew1 | refine below_set ?_ GE102.out) | exact HB.out)⟩⟩
                · rw [if_neg c12] at H
                  have c12b0 : decide (((rd_T39 l0 x9_1).f2) < 0) = false := decide_eq_false c12
                  clear c12
                  by_cases c14 : ((rd_T39 l0 x9_1).f2) > 1073741824
                  · rw [if_pos c14] at H
                    have c14b0 : decide (1073741824 < ((rd_T39 l0 x9_1).f2)) = true := decide_eq_true c14
                    clear c14
                    have H' := Aside0.mk H
                    clear H
                    have hcz15_0 : w6.cell? ⟨gb102, 0, none⟩ = some (.int .i64 0) := (blk_cell BK102.out 0).trans rfl
                    have hcz15_1 : w6.cell? ⟨gb102, 1, none⟩ = some (.int .i64 0) := (blk_cell BK102.out 1).trans rfl
                    have hcz15_2 : w6.cell? ⟨gb102, 2, none⟩ = some (.int .i64 0) := (blk_cell BK102.out 2).trans rfl
                    have hfz15_0 := blk_frozen BK102.out 0
                    have hfz15_1 := blk_frozen BK102.out 1
                    have hfz15_2 := blk_frozen BK102.out 2
                    go_wp2
                    go_meet
                    case rel => exact ⟨_, (true), (by first | rfl | (simp; done) | (simp [*]; done)), H', ⟨by have := HK1.out; first | omega | exact Nat.le_refl _⟩, ⟨by (with_reducible repeat (first | refine blk_drewN ?_ _ | refine blk_drew ?_ | refine blk_alloc ?_ _)); refine blk_put (cs := #[.int .i64 ((rd_T39 l0 x9_1).f0), .int .i64 ((rd_T39 l0 x9_1).f1), .int .i64 0]) ?_ 2 _ rfl; (with_reducible repeat (first | refine blk_drewN ?_ _ | refine blk_drew ?_ | refine blk_alloc ?_ _)); refine blk_put (cs := #[.int .i64 ((rd_T39 l0 x9_1).f0), .int .i64 0, .int .i64 0]) ?_ 1 _ rfl; (with_reducible repeat (first | refine blk_drewN ?_ _ | refine blk_drew ?_ | refine blk_alloc ?_ _)); refine blk_put (cs := #[.int .i64 0, .int .i64 0, .int .i64 0]) ?_ 0 _ rfl; (with_reducible repeat (first | refine blk_drewN ?_ _ | refine blk_drew ?_ | refine blk_alloc ?_ _)); exact BK102.out⟩, ⟨by repeat (first | (with_reducible first | exact HB.out | apply below_alloc | apply pw_below_drewN | apply below_drew1 | refine below_set ?_ GE102.out) | exact HB.out)⟩⟩
                  · rw [if_neg c14] at H
                    have c14b0 : decide (1073741824 < ((rd_T39 l0 x9_1).f2)) = false := decide_eq_false c14
                    clear c14
                    by_cases c16 : ((rd_T39 l0 x9_1).f1) < 1
                    · rw [if_pos c16] at H
                      have c16b0 : decide (((rd_T39 l0 x9_1).f1) < 1) = true := decide_eq_true c16
                      clear c16
                      have H' := Aside0.mk H
                      clear H
                      have hcz17_0 : w6.cell? ⟨gb102, 0, none⟩ = some (.int .i64 0) := (blk_cell BK102.out 0).trans rfl
                      have hcz17_1 : w6.cell? ⟨gb102, 1, none⟩ = some (.int .i64 0) := (blk_cell BK102.out 1).trans rfl
                      have hcz17_2 : w6.cell? ⟨gb102, 2, none⟩ = some (.int .i64 0) := (blk_cell BK102.out 2).trans rfl
                      have hfz17_0 := blk_frozen BK102.out 0
                      have hfz17_1 := blk_frozen BK102.out 1
                      have hfz17_2 := blk_frozen BK102.out 2
                      go_wp2
                      go_meet
                      case rel => exact ⟨_, (true), (by first | rfl | (simp; done) | (simp [*]; done)), H', ⟨by have := HK1.out; first | omega | exact Nat.le_refl _⟩, ⟨by (with_reducible repeat (first | refine blk_drewN ?_ _ | refine blk_drew ?_ | refine blk_alloc ?_ _)); refine blk_put (cs := #[.int .i64 ((rd_T39 l0 x9_1).f0), .int .i64 ((rd_T39 l0 x9_1).f1), .int .i64 0]) ?_ 2 _ rfl; (with_reducible repeat (first | refine blk_drewN ?_ _ | refine blk_drew ?_ | refine blk_alloc ?_ _)); refine blk_put (cs := #[.int .i64 ((rd_T39 l0 x9_1).f0), .int .i64 0, .int .i64 0]) ?_ 1 _ rfl; (with_reducible repeat (first | refine blk_drewN ?_ _ | refine blk_drew ?_ | refine blk_alloc ?_ _)); refine blk_put (cs := #[.int .i64 0, .int .i64 0, .int .i64 0]) ?_ 0 _ rfl; (with_reducible repeat (first | refine blk_drewN ?_ _ | refine blk_drew ?_ | refine blk_alloc ?_ _)); exact BK102.out⟩, ⟨by repeat (first | (with_reducible first | exact HB.out | apply below_alloc | apply pw_below_drewN | apply below_drew1 | refine below_set ?_ GE102.out) | exact HB.out)⟩⟩
                    · rw [if_neg c16] at H
                      have c16b0 : decide (((rd_T39 l0 x9_1).f1) < 1) = false := decide_eq_false c16
                      clear c16
                      have H' := Aside0.mk H
                      clear H
                      have hcz18_0 : w6.cell? ⟨gb102, 0, none⟩ = some (.int .i64 0) := (blk_cell BK102.out 0).trans rfl
                      have hcz18_1 : w6.cell? ⟨gb102, 1, none⟩ = some (.int .i64 0) := (blk_cell BK102.out 1).trans rfl
                      have hcz18_2 : w6.cell? ⟨gb102, 2, none⟩ = some (.int .i64 0) := (blk_cell BK102.out 2).trans rfl
                      have hfz18_0 := blk_frozen BK102.out 0
                      have hfz18_1 := blk_frozen BK102.out 1
                      have hfz18_2 := blk_frozen BK102.out 2
                      go_wp2
                      go_meet
                      case rel => exact ⟨_, (decide (((rd_T39 l0 x9_1).f1) > 1073741824)), (by first | rfl | (simp; done) | (simp [*]; done)), H', ⟨by have := HK1.out; first | omega | exact Nat.le_refl _⟩, ⟨by (with_reducible repeat (first | refine blk_drewN ?_ _ | refine blk_drew ?_ | refine blk_alloc ?_ _)); refine blk_put (cs := #[.int .i64 ((rd_T39 l0 x9_1).f0), .int .i64 ((rd_T39 l0 x9_1).f1), .int .i64 0]) ?_ 2 _ rfl; (with_reducible repeat (first | refine blk_drewN ?_ _ | refine blk_drew ?_ | refine blk_alloc ?_ _)); refine blk_put (cs := #[.int .i64 ((rd_T39 l0 x9_1).f0), .int .i64 0, .int .i64 0]) ?_ 1 _ rfl; (with_reducible repeat (first | refine blk_drewN ?_ _ | refine blk_drew ?_ | refine blk_alloc ?_ _)); refine blk_put (cs := #[.int .i64 0, .int .i64 0, .int .i64 0]) ?_ 0 _ rfl; (with_reducible repeat (first | refine blk_drewN ?_ _ | refine blk_drew ?_ | refine blk_alloc ?_ _)); exact BK102.out⟩, ⟨by repeat (first | (with_reducible first | exact HB.out | apply below_alloc | apply pw_below_drewN | apply below_drew1 | refine below_set ?_ GE102.out) | exact HB.out)⟩⟩
          case rest =>
            clear HC5
            try clear c1
            try clear p1
            try clear q1
            try clear hx1
            try clear c2
            try clear c2b0
            try clear p2
            try clear c3
            try clear c3b0
            try clear c4
            try clear c4b0
            try clear c8
            try clear c8b0
            try clear c10
            try clear c10b0
            try clear p10
            try clear q10
            try clear hx10
            try clear c12
            try clear c12b0
            try clear c14
            try clear c14b0
            try clear c16
            try clear c16b0
            try clear c18
            try clear hcz11_0
            try clear hcz11_1
            try clear hcz11_2
            try clear hcz13_0
            try clear hcz13_1
            try clear hcz13_2
            try clear hcz15_0
            try clear hcz15_1
            try clear hcz15_2
            try clear hcz17_0
            try clear hcz17_1
            try clear hcz17_2
            try clear hcz18_0
            try clear hcz18_1
            try clear hcz18_2
            try clear hcz7_0
            try clear hcz7_1
            try clear hcz7_2
            try clear hcz9_0
            try clear hcz9_1
            try clear hcz9_2
            try clear hfz11_0
            try clear hfz11_1
            try clear hfz11_2
            try clear hfz13_0
            try clear hfz13_1
            try clear hfz13_2
            try clear hfz15_0
            try clear hfz15_1
            try clear hfz15_2
            try clear hfz17_0
            try clear hfz17_1
            try clear hfz17_2
            try clear hfz18_0
            try clear hfz18_1
            try clear hfz18_2
            try clear hfz7_0
            try clear hfz7_1
            try clear hfz7_2
            try clear hfz9_0
            try clear hfz9_1
            try clear hfz9_2
            try clear hx101_0
            try clear hx101_1
            try clear hx101_2
            try clear p101
            try clear q101
            obtain ⟨kq, x41_4, rfl, HA, HJ4, BK102, HB⟩ := hcut
            cases kq with
            | zero => exact absurd HA.out (by simp [span_Form.j1])
            | succ kj4 =>
              have H := HA.out
              clear HA
              simp only [span_Form.j1] at H
              by_cases c19 : x41_4 = true
              · subst c19
                have H1 : (some false) = some r := by rw [if_pos rfl] at H; exact H
                clear H
                have H := H1
                clear H1
                obtain rfl := Option.some.inj H
                go_wp2
                go_ret
                exact ⟨by first | rfl | (simp [errW_none, errW_some] <;> rfl) | (simp [*, errW_none, errW_some] <;> rfl), by repeat (first | (with_reducible first | exact HB.out | apply below_alloc | apply pw_below_drewN | apply below_drew1 | refine below_set ?_ GE102.out) | exact HB.out)⟩
              · replace c19 := Bool.eq_false_iff.mpr c19
                subst c19
                have H1 : (if x9_1 = 0 then (span_Form.l0 kj4 l0 l0 (l0.length : Int) (wrap64 (x9_1 + 1))) else (if 0 ≤ (wrap64 (x9_1 - 1)) then (if (wrap64 (x9_1 - 1)) < (l0.length : Int) then (if (wrap64 (((rd_T39 l0 x9_1).f0) - ((rd_T39 l0 (wrap64 (x9_1 - 1))).f0))) < ((rd_T39 l0 (wrap64 (x9_1 - 1))).f1) then (some false) else (if (wrap64 (((rd_T39 l0 x9_1).f0) - ((rd_T39 l0 (wrap64 (x9_1 - 1))).f0))) = ((rd_T39 l0 (wrap64 (x9_1 - 1))).f1) then (if (wrap64 (((rd_T39 l0 x9_1).f2) - ((rd_T39 l0 (wrap64 (x9_1 - 1))).f2))) = ((rd_T39 l0 (wrap64 (x9_1 - 1))).f1) then (some false) else (span_Form.l0 kj4 l0 l0 (l0.length : Int) (wrap64 (x9_1 + 1)))) else (span_Form.l0 kj4 l0 l0 (l0.length : Int) (wrap64 (x9_1 + 1))))) else (none)) else (none))) = some r := by rw [if_neg (show ¬ (false = true) by decide)] at H; exact H
                clear H
                have H := H1
                clear H1
                by_cases c20 : x9_1 = 0
                · rw [if_pos c20] at H
                  have c20b0 : (x9_1 == 0) = true := beq_iff_eq.mpr c20
                  have c20b1 : (x9_1 != 0) = false := bne_eq_false_iff_eq.mpr c20
                  clear c20
                  have H' := Aside0.mk H
                  clear H
                  go_wp2
                  go_roundg kj4
                  case measure => have := HK1.out; have := HJ4.out; omega
                  case rel => exact ⟨(wrap64 (x9_1 + 1)), (by first | rfl | (simp; done) | (simp [*]; done)), H', ⟨by have := HK1.out; have := HJ4.out; omega⟩, ⟨by repeat (first | (with_reducible first | exact HB.out | apply below_alloc | apply pw_below_drewN | apply below_drew1 | refine below_set ?_ GE102.out) | exact HB.out)⟩⟩
                · rw [if_neg c20] at H
                  have c20b0 : (x9_1 == 0) = false := beq_eq_false_iff_ne.mpr c20
                  have c20b1 : (x9_1 != 0) = true := bne_iff_ne.mpr c20
                  obtain ⟨ji21, hji21⟩ : ∃ j_ : Int, (wrap64 (x9_1 - 1)) = j_ := ⟨_, rfl⟩
                  replace H : (if 0 ≤ (ji21) then (if (ji21) < (l0.length : Int) then (if (wrap64 (((rd_T39 l0 x9_1).f0) - ((rd_T39 l0 (ji21)).f0))) < ((rd_T39 l0 (ji21)).f1) then (some false) else (if (wrap64 (((rd_T39 l0 x9_1).f0) - ((rd_T39 l0 (ji21)).f0))) = ((rd_T39 l0 (ji21)).f1) then (if (wrap64 (((rd_T39 l0 x9_1).f2) - ((rd_T39 l0 (ji21)).f2))) = ((rd_T39 l0 (ji21)).f1) then (some false) else (span_Form.l0 kj4 l0 l0 (l0.length : Int) (wrap64 (x9_1 + 1)))) else (span_Form.l0 kj4 l0 l0 (l0.length : Int) (wrap64 (x9_1 + 1))))) else (none)) else (none)) = some r := by first | (rw [hji21] at H; exact H) | (simp only [hji21] at H ⊢; exact H)
                  have hji21w : (IntKind.i64.wrap (x9_1 - 1)) = ji21 := (i64_w _).trans hji21
                  by_cases c22 : 0 ≤ (ji21)
                  · rw [if_pos c22] at H
                    have c22b0 : decide (0 ≤ (ji21)) = true := decide_eq_true c22
                    clear c22
                    by_cases c23 : (ji21) < (l0.length : Int)
                    · rw [if_pos c23] at H
                      have c23b0 : decide ((ji21) < (l0.length : Int)) = true := decide_eq_true c23
                      clear c23
                      by_cases c24 : (wrap64 (((rd_T39 l0 x9_1).f0) - ((rd_T39 l0 (ji21)).f0))) < ((rd_T39 l0 (ji21)).f1)
                      · rw [if_pos c24] at H
                        have c24b0 : decide ((wrap64 (((rd_T39 l0 x9_1).f0) - ((rd_T39 l0 (ji21)).f0))) < ((rd_T39 l0 (ji21)).f1)) = true := decide_eq_true c24
                        clear c24
                        obtain rfl := Option.some.inj H
                        have p103 : 0 ≤ ((ji21) : Int) := of_decide_eq_true (by with_reducible assumption)
                        have q103 : (ji21) < (l0.length : Int) := of_decide_eq_true (by with_reducible assumption)
                        obtain ⟨ad103, e103, hx103_0, hx103_1, hx103_2⟩ := at_T39 HR0.out (ji21) p103 q103
                        obtain rfl : ad101 = ad103 := (by injection e103)
                        replace hx103_0 := (HB.out.cell (World.block_lt_of_cell? w _ hx103_0)).trans hx103_0
                        replace hx103_1 := (HB.out.cell (World.block_lt_of_cell? w _ hx103_1)).trans hx103_1
                        replace hx103_2 := (HB.out.cell (World.block_lt_of_cell? w _ hx103_2)).trans hx103_2
                        replace p103 := eq_true p103
                        replace q103 := eq_true q103
                        go_wp2_with (first | ((with_reducible refine gate_dst (N := 5) rfl ?_); refine box_event ?hg (N := 5) ?hd (cs := #[.int .i64 0, .int .i64 0, .int .i64 0]) (t := 39) ?hr ?_; (case hd => rfl); (case hg => rfl); (case hr => first | (go_simp; done) | (go_simp; rfl)); intro gb104 hg w25 hbox hb; have n0_ := Aside0.mk (blk_below (g := gb102) (o := .cells #[.int .i64 ((rd_T39 l0 x9_1).f0), .int .i64 ((rd_T39 l0 x9_1).f1), .int .i64 ((rd_T39 l0 x9_1).f2)] 39 (0, 0)) (by (with_reducible repeat (first | refine blk_drewN ?_ _ | refine blk_drew ?_ | refine blk_alloc ?_ _)); exact BK102.out) hb); have n1_ := Aside0.mk (below_step (by repeat (first | (with_reducible first | exact HB.out | apply below_alloc | apply pw_below_drewN | apply below_drew1 | refine below_set ?_ GE102.out) | exact HB.out)) hb); have n2_ := Aside0.mk (hbox); have n3_ := Aside0.mk ((by rw [hg]; exact (below_size (by repeat (first | (with_reducible first | exact HB.out | apply below_alloc | apply pw_below_drewN | apply below_drew1 | refine below_set ?_ GE102.out) | exact HB.out))) : w.heap.size ≤ gb104)); have n4_ := Aside0.mk ((by rw [hg]; exact (below_size (by repeat (first | (with_reducible first | exact HB.out | apply below_alloc | apply pw_below_drewN | apply below_drew1 | refine below_set ?_ GE102.out) | exact HB.out))) : w.heap.size ≤ gb104)); have n5_ := Aside0.mk ((by rw [hg]; exact Nat.ne_of_lt (blk_lt (g := gb102) (o := .cells #[.int .i64 ((rd_T39 l0 x9_1).f0), .int .i64 ((rd_T39 l0 x9_1).f1), .int .i64 ((rd_T39 l0 x9_1).f2)] 39 (0, 0)) (by (with_reducible repeat (first | refine blk_drewN ?_ _ | refine blk_drew ?_ | refine blk_alloc ?_ _)); exact BK102.out)) : gb102 ≠ gb104)); have n6_ := Aside0.mk ((by rw [hg]; exact Nat.ne_of_gt (blk_lt (g := gb102) (o := .cells #[.int .i64 ((rd_T39 l0 x9_1).f0), .int .i64 ((rd_T39 l0 x9_1).f1), .int .i64 ((rd_T39 l0 x9_1).f2)] 39 (0, 0)) (by (with_reducible repeat (first | refine blk_drewN ?_ _ | refine blk_drew ?_ | refine blk_alloc ?_ _)); exact BK102.out)) : gb104 ≠ gb102)); clear BK102; clear HB; have BK102 := n0_; have HB := n1_; have BK104 := n2_; have GW104 := n3_; have GE104 := n4_; have NB102_104 := n5_; have NB104_102 := n6_; clear n0_ n1_ n2_ n3_ n4_ n5_ n6_; clear hb hbox hg; have hnb26 := NB104_102.out; have hnc26 := NB102_104.out; have hcz27_0 : w25.cell? ⟨gb104, 0, none⟩ = some (.int .i64 0) := (blk_cell BK104.out 0).trans rfl; have hcz27_1 : w25.cell? ⟨gb104, 1, none⟩ = some (.int .i64 0) := (blk_cell BK104.out 1).trans rfl; have hcz27_2 : w25.cell? ⟨gb104, 2, none⟩ = some (.int .i64 0) := (blk_cell BK104.out 2).trans rfl; have hfz27_0 := blk_frozen BK104.out 0; have hfz27_1 := blk_frozen BK104.out 1; have hfz27_2 := blk_frozen BK104.out 2; have hcz28_0 : w25.cell? ⟨gb102, 0, none⟩ = some (.int .i64 ((rd_T39 l0 x9_1).f0)) := (blk_cell BK102.out 0).trans rfl; have hcz28_1 : w25.cell? ⟨gb102, 1, none⟩ = some (.int .i64 ((rd_T39 l0 x9_1).f1)) := (blk_cell BK102.out 1).trans rfl; have hcz28_2 : w25.cell? ⟨gb102, 2, none⟩ = some (.int .i64 ((rd_T39 l0 x9_1).f2)) := (blk_cell BK102.out 2).trans rfl; have hfz28_0 := blk_frozen BK102.out 0; have hfz28_1 := blk_frozen BK102.out 1; have hfz28_2 := blk_frozen BK102.out 2))
                        go_ret
                        exact ⟨by first | rfl | (simp [errW_none, errW_some] <;> rfl) | (simp only [← hji21]; first | rfl | (simp [errW_none, errW_some] <;> rfl)) | (simp [*, errW_none, errW_some] <;> rfl), by repeat (first | (with_reducible first | exact HB.out | apply below_alloc | apply pw_below_drewN | apply below_drew1 | refine below_set ?_ GE102.out | refine below_set ?_ GE104.out) | exact HB.out)⟩
                      · rw [if_neg c24] at H
                        have c24b0 : decide ((wrap64 (((rd_T39 l0 x9_1).f0) - ((rd_T39 l0 (ji21)).f0))) < ((rd_T39 l0 (ji21)).f1)) = false := decide_eq_false c24
                        clear c24
                        by_cases c29 : (wrap64 (((rd_T39 l0 x9_1).f0) - ((rd_T39 l0 (ji21)).f0))) = ((rd_T39 l0 (ji21)).f1)
                        · rw [if_pos c29] at H
                          have c29b0 : ((wrap64 (((rd_T39 l0 x9_1).f0) - ((rd_T39 l0 (ji21)).f0))) == ((rd_T39 l0 (ji21)).f1)) = true := beq_iff_eq.mpr c29
                          have c29b1 : ((wrap64 (((rd_T39 l0 x9_1).f0) - ((rd_T39 l0 (ji21)).f0))) != ((rd_T39 l0 (ji21)).f1)) = false := bne_eq_false_iff_eq.mpr c29
                          clear c29
                          by_cases c30 : (wrap64 (((rd_T39 l0 x9_1).f2) - ((rd_T39 l0 (ji21)).f2))) = ((rd_T39 l0 (ji21)).f1)
                          · rw [if_pos c30] at H
                            have c30b0 : ((wrap64 (((rd_T39 l0 x9_1).f2) - ((rd_T39 l0 (ji21)).f2))) == ((rd_T39 l0 (ji21)).f1)) = true := beq_iff_eq.mpr c30
                            have c30b1 : ((wrap64 (((rd_T39 l0 x9_1).f2) - ((rd_T39 l0 (ji21)).f2))) != ((rd_T39 l0 (ji21)).f1)) = false := bne_eq_false_iff_eq.mpr c30
                            clear c30
                            obtain rfl := Option.some.inj H
                            have p103 : 0 ≤ ((ji21) : Int) := of_decide_eq_true (by with_reducible assumption)
                            have q103 : (ji21) < (l0.length : Int) := of_decide_eq_true (by with_reducible assumption)
                            obtain ⟨ad103, e103, hx103_0, hx103_1, hx103_2⟩ := at_T39 HR0.out (ji21) p103 q103
                            obtain rfl : ad101 = ad103 := (by injection e103)
                            replace hx103_0 := (HB.out.cell (World.block_lt_of_cell? w _ hx103_0)).trans hx103_0
                            replace hx103_1 := (HB.out.cell (World.block_lt_of_cell? w _ hx103_1)).trans hx103_1
                            replace hx103_2 := (HB.out.cell (World.block_lt_of_cell? w _ hx103_2)).trans hx103_2
                            replace p103 := eq_true p103
                            replace q103 := eq_true q103
                            go_wp2_with (first | ((with_reducible refine gate_dst (N := 5) rfl ?_); refine box_event ?hg (N := 5) ?hd (cs := #[.int .i64 0, .int .i64 0, .int .i64 0]) (t := 39) ?hr ?_; (case hd => rfl); (case hg => rfl); (case hr => first | (go_simp; done) | (go_simp; rfl)); intro gb104 hg w31 hbox hb; have n0_ := Aside0.mk (blk_below (g := gb102) (o := .cells #[.int .i64 ((rd_T39 l0 x9_1).f0), .int .i64 ((rd_T39 l0 x9_1).f1), .int .i64 ((rd_T39 l0 x9_1).f2)] 39 (0, 0)) (by (with_reducible repeat (first | refine blk_drewN ?_ _ | refine blk_drew ?_ | refine blk_alloc ?_ _)); exact BK102.out) hb); have n1_ := Aside0.mk (below_step (by repeat (first | (with_reducible first | exact HB.out | apply below_alloc | apply pw_below_drewN | apply below_drew1 | refine below_set ?_ GE102.out) | exact HB.out)) hb); have n2_ := Aside0.mk (hbox); have n3_ := Aside0.mk ((by rw [hg]; exact (below_size (by repeat (first | (with_reducible first | exact HB.out | apply below_alloc | apply pw_below_drewN | apply below_drew1 | refine below_set ?_ GE102.out) | exact HB.out))) : w.heap.size ≤ gb104)); have n4_ := Aside0.mk ((by rw [hg]; exact (below_size (by repeat (first | (with_reducible first | exact HB.out | apply below_alloc | apply pw_below_drewN | apply below_drew1 | refine below_set ?_ GE102.out) | exact HB.out))) : w.heap.size ≤ gb104)); have n5_ := Aside0.mk ((by rw [hg]; exact Nat.ne_of_lt (blk_lt (g := gb102) (o := .cells #[.int .i64 ((rd_T39 l0 x9_1).f0), .int .i64 ((rd_T39 l0 x9_1).f1), .int .i64 ((rd_T39 l0 x9_1).f2)] 39 (0, 0)) (by (with_reducible repeat (first | refine blk_drewN ?_ _ | refine blk_drew ?_ | refine blk_alloc ?_ _)); exact BK102.out)) : gb102 ≠ gb104)); have n6_ := Aside0.mk ((by rw [hg]; exact Nat.ne_of_gt (blk_lt (g := gb102) (o := .cells #[.int .i64 ((rd_T39 l0 x9_1).f0), .int .i64 ((rd_T39 l0 x9_1).f1), .int .i64 ((rd_T39 l0 x9_1).f2)] 39 (0, 0)) (by (with_reducible repeat (first | refine blk_drewN ?_ _ | refine blk_drew ?_ | refine blk_alloc ?_ _)); exact BK102.out)) : gb104 ≠ gb102)); clear BK102; clear HB; have BK102 := n0_; have HB := n1_; have BK104 := n2_; have GW104 := n3_; have GE104 := n4_; have NB102_104 := n5_; have NB104_102 := n6_; clear n0_ n1_ n2_ n3_ n4_ n5_ n6_; clear hb hbox hg; have hnb32 := NB104_102.out; have hnc32 := NB102_104.out; have hcz33_0 : w31.cell? ⟨gb104, 0, none⟩ = some (.int .i64 0) := (blk_cell BK104.out 0).trans rfl; have hcz33_1 : w31.cell? ⟨gb104, 1, none⟩ = some (.int .i64 0) := (blk_cell BK104.out 1).trans rfl; have hcz33_2 : w31.cell? ⟨gb104, 2, none⟩ = some (.int .i64 0) := (blk_cell BK104.out 2).trans rfl; have hfz33_0 := blk_frozen BK104.out 0; have hfz33_1 := blk_frozen BK104.out 1; have hfz33_2 := blk_frozen BK104.out 2; have hcz34_0 : w31.cell? ⟨gb102, 0, none⟩ = some (.int .i64 ((rd_T39 l0 x9_1).f0)) := (blk_cell BK102.out 0).trans rfl; have hcz34_1 : w31.cell? ⟨gb102, 1, none⟩ = some (.int .i64 ((rd_T39 l0 x9_1).f1)) := (blk_cell BK102.out 1).trans rfl; have hcz34_2 : w31.cell? ⟨gb102, 2, none⟩ = some (.int .i64 ((rd_T39 l0 x9_1).f2)) := (blk_cell BK102.out 2).trans rfl; have hfz34_0 := blk_frozen BK102.out 0; have hfz34_1 := blk_frozen BK102.out 1; have hfz34_2 := blk_frozen BK102.out 2))
                            go_ret
                            exact ⟨by first | rfl | (simp [errW_none, errW_some] <;> rfl) | (simp only [← hji21]; first | rfl | (simp [errW_none, errW_some] <;> rfl)) | (simp [*, errW_none, errW_some] <;> rfl), by repeat (first | (with_reducible first | exact HB.out | apply below_alloc | apply pw_below_drewN | apply below_drew1 | refine below_set ?_ GE102.out | refine below_set ?_ GE104.out) | exact HB.out)⟩
                          · rw [if_neg c30] at H
                            have c30b0 : ((wrap64 (((rd_T39 l0 x9_1).f2) - ((rd_T39 l0 (ji21)).f2))) == ((rd_T39 l0 (ji21)).f1)) = false := beq_eq_false_iff_ne.mpr c30
                            have c30b1 : ((wrap64 (((rd_T39 l0 x9_1).f2) - ((rd_T39 l0 (ji21)).f2))) != ((rd_T39 l0 (ji21)).f1)) = true := bne_iff_ne.mpr c30
                            have H' := Aside0.mk H
                            clear H
                            have p103 : 0 ≤ ((ji21) : Int) := of_decide_eq_true (by with_reducible assumption)
                            have q103 : (ji21) < (l0.length : Int) := of_decide_eq_true (by with_reducible assumption)
                            obtain ⟨ad103, e103, hx103_0, hx103_1, hx103_2⟩ := at_T39 HR0.out (ji21) p103 q103
                            obtain rfl : ad101 = ad103 := (by injection e103)
                            replace hx103_0 := (HB.out.cell (World.block_lt_of_cell? w _ hx103_0)).trans hx103_0
                            replace hx103_1 := (HB.out.cell (World.block_lt_of_cell? w _ hx103_1)).trans hx103_1
                            replace hx103_2 := (HB.out.cell (World.block_lt_of_cell? w _ hx103_2)).trans hx103_2
                            replace p103 := eq_true p103
                            replace q103 := eq_true q103
                            go_wp2_with (first | ((with_reducible refine gate_dst (N := 5) rfl ?_); refine box_event ?hg (N := 5) ?hd (cs := #[.int .i64 0, .int .i64 0, .int .i64 0]) (t := 39) ?hr ?_; (case hd => rfl); (case hg => rfl); (case hr => first | (go_simp; done) | (go_simp; rfl)); intro gb104 hg w35 hbox hb; have n0_ := Aside0.mk (blk_below (g := gb102) (o := .cells #[.int .i64 ((rd_T39 l0 x9_1).f0), .int .i64 ((rd_T39 l0 x9_1).f1), .int .i64 ((rd_T39 l0 x9_1).f2)] 39 (0, 0)) (by (with_reducible repeat (first | refine blk_drewN ?_ _ | refine blk_drew ?_ | refine blk_alloc ?_ _)); exact BK102.out) hb); have n1_ := Aside0.mk (below_step (by repeat (first | (with_reducible first | exact HB.out | apply below_alloc | apply pw_below_drewN | apply below_drew1 | refine below_set ?_ GE102.out) | exact HB.out)) hb); have n2_ := Aside0.mk (hbox); have n3_ := Aside0.mk ((by rw [hg]; exact (below_size (by repeat (first | (with_reducible first | exact HB.out | apply below_alloc | apply pw_below_drewN | apply below_drew1 | refine below_set ?_ GE102.out) | exact HB.out))) : w.heap.size ≤ gb104)); have n4_ := Aside0.mk ((by rw [hg]; exact (below_size (by repeat (first | (with_reducible first | exact HB.out | apply below_alloc | apply pw_below_drewN | apply below_drew1 | refine below_set ?_ GE102.out) | exact HB.out))) : w.heap.size ≤ gb104)); have n5_ := Aside0.mk ((by rw [hg]; exact Nat.ne_of_lt (blk_lt (g := gb102) (o := .cells #[.int .i64 ((rd_T39 l0 x9_1).f0), .int .i64 ((rd_T39 l0 x9_1).f1), .int .i64 ((rd_T39 l0 x9_1).f2)] 39 (0, 0)) (by (with_reducible repeat (first | refine blk_drewN ?_ _ | refine blk_drew ?_ | refine blk_alloc ?_ _)); exact BK102.out)) : gb102 ≠ gb104)); have n6_ := Aside0.mk ((by rw [hg]; exact Nat.ne_of_gt (blk_lt (g := gb102) (o := .cells #[.int .i64 ((rd_T39 l0 x9_1).f0), .int .i64 ((rd_T39 l0 x9_1).f1), .int .i64 ((rd_T39 l0 x9_1).f2)] 39 (0, 0)) (by (with_reducible repeat (first | refine blk_drewN ?_ _ | refine blk_drew ?_ | refine blk_alloc ?_ _)); exact BK102.out)) : gb104 ≠ gb102)); clear BK102; clear HB; have BK102 := n0_; have HB := n1_; have BK104 := n2_; have GW104 := n3_; have GE104 := n4_; have NB102_104 := n5_; have NB104_102 := n6_; clear n0_ n1_ n2_ n3_ n4_ n5_ n6_; clear hb hbox hg; have hnb36 := NB104_102.out; have hnc36 := NB102_104.out; have hcz37_0 : w35.cell? ⟨gb104, 0, none⟩ = some (.int .i64 0) := (blk_cell BK104.out 0).trans rfl; have hcz37_1 : w35.cell? ⟨gb104, 1, none⟩ = some (.int .i64 0) := (blk_cell BK104.out 1).trans rfl; have hcz37_2 : w35.cell? ⟨gb104, 2, none⟩ = some (.int .i64 0) := (blk_cell BK104.out 2).trans rfl; have hfz37_0 := blk_frozen BK104.out 0; have hfz37_1 := blk_frozen BK104.out 1; have hfz37_2 := blk_frozen BK104.out 2; have hcz38_0 : w35.cell? ⟨gb102, 0, none⟩ = some (.int .i64 ((rd_T39 l0 x9_1).f0)) := (blk_cell BK102.out 0).trans rfl; have hcz38_1 : w35.cell? ⟨gb102, 1, none⟩ = some (.int .i64 ((rd_T39 l0 x9_1).f1)) := (blk_cell BK102.out 1).trans rfl; have hcz38_2 : w35.cell? ⟨gb102, 2, none⟩ = some (.int .i64 ((rd_T39 l0 x9_1).f2)) := (blk_cell BK102.out 2).trans rfl; have hfz38_0 := blk_frozen BK102.out 0; have hfz38_1 := blk_frozen BK102.out 1; have hfz38_2 := blk_frozen BK102.out 2))
                            go_roundg kj4
                            case measure => have := HK1.out; have := HJ4.out; omega
                            case rel => exact ⟨(wrap64 (x9_1 + 1)), (by first | rfl | (simp; done) | (simp [*]; done)), H', ⟨by have := HK1.out; have := HJ4.out; omega⟩, ⟨by repeat (first | (with_reducible first | exact HB.out | apply below_alloc | apply pw_below_drewN | apply below_drew1 | refine below_set ?_ GE102.out | refine below_set ?_ GE104.out) | exact HB.out)⟩⟩
                        · rw [if_neg c29] at H
                          have c29b0 : ((wrap64 (((rd_T39 l0 x9_1).f0) - ((rd_T39 l0 (ji21)).f0))) == ((rd_T39 l0 (ji21)).f1)) = false := beq_eq_false_iff_ne.mpr c29
                          have c29b1 : ((wrap64 (((rd_T39 l0 x9_1).f0) - ((rd_T39 l0 (ji21)).f0))) != ((rd_T39 l0 (ji21)).f1)) = true := bne_iff_ne.mpr c29
                          have H' := Aside0.mk H
                          clear H
                          have p103 : 0 ≤ ((ji21) : Int) := of_decide_eq_true (by with_reducible assumption)
                          have q103 : (ji21) < (l0.length : Int) := of_decide_eq_true (by with_reducible assumption)
                          obtain ⟨ad103, e103, hx103_0, hx103_1, hx103_2⟩ := at_T39 HR0.out (ji21) p103 q103
                          obtain rfl : ad101 = ad103 := (by injection e103)
                          replace hx103_0 := (HB.out.cell (World.block_lt_of_cell? w _ hx103_0)).trans hx103_0
                          replace hx103_1 := (HB.out.cell (World.block_lt_of_cell? w _ hx103_1)).trans hx103_1
                          replace hx103_2 := (HB.out.cell (World.block_lt_of_cell? w _ hx103_2)).trans hx103_2
                          replace p103 := eq_true p103
                          replace q103 := eq_true q103
                          go_wp2_with (first | ((with_reducible refine gate_dst (N := 5) rfl ?_); refine box_event ?hg (N := 5) ?hd (cs := #[.int .i64 0, .int .i64 0, .int .i64 0]) (t := 39) ?hr ?_; (case hd => rfl); (case hg => rfl); (case hr => first | (go_simp; done) | (go_simp; rfl)); intro gb104 hg w39 hbox hb; have n0_ := Aside0.mk (blk_below (g := gb102) (o := .cells #[.int .i64 ((rd_T39 l0 x9_1).f0), .int .i64 ((rd_T39 l0 x9_1).f1), .int .i64 ((rd_T39 l0 x9_1).f2)] 39 (0, 0)) (by (with_reducible repeat (first | refine blk_drewN ?_ _ | refine blk_drew ?_ | refine blk_alloc ?_ _)); exact BK102.out) hb); have n1_ := Aside0.mk (below_step (by repeat (first | (with_reducible first | exact HB.out | apply below_alloc | apply pw_below_drewN | apply below_drew1 | refine below_set ?_ GE102.out) | exact HB.out)) hb); have n2_ := Aside0.mk (hbox); have n3_ := Aside0.mk ((by rw [hg]; exact (below_size (by repeat (first | (with_reducible first | exact HB.out | apply below_alloc | apply pw_below_drewN | apply below_drew1 | refine below_set ?_ GE102.out) | exact HB.out))) : w.heap.size ≤ gb104)); have n4_ := Aside0.mk ((by rw [hg]; exact (below_size (by repeat (first | (with_reducible first | exact HB.out | apply below_alloc | apply pw_below_drewN | apply below_drew1 | refine below_set ?_ GE102.out) | exact HB.out))) : w.heap.size ≤ gb104)); have n5_ := Aside0.mk ((by rw [hg]; exact Nat.ne_of_lt (blk_lt (g := gb102) (o := .cells #[.int .i64 ((rd_T39 l0 x9_1).f0), .int .i64 ((rd_T39 l0 x9_1).f1), .int .i64 ((rd_T39 l0 x9_1).f2)] 39 (0, 0)) (by (with_reducible repeat (first | refine blk_drewN ?_ _ | refine blk_drew ?_ | refine blk_alloc ?_ _)); exact BK102.out)) : gb102 ≠ gb104)); have n6_ := Aside0.mk ((by rw [hg]; exact Nat.ne_of_gt (blk_lt (g := gb102) (o := .cells #[.int .i64 ((rd_T39 l0 x9_1).f0), .int .i64 ((rd_T39 l0 x9_1).f1), .int .i64 ((rd_T39 l0 x9_1).f2)] 39 (0, 0)) (by (with_reducible repeat (first | refine blk_drewN ?_ _ | refine blk_drew ?_ | refine blk_alloc ?_ _)); exact BK102.out)) : gb104 ≠ gb102)); clear BK102; clear HB; have BK102 := n0_; have HB := n1_; have BK104 := n2_; have GW104 := n3_; have GE104 := n4_; have NB102_104 := n5_; have NB104_102 := n6_; clear n0_ n1_ n2_ n3_ n4_ n5_ n6_; clear hb hbox hg; have hnb40 := NB104_102.out; have hnc40 := NB102_104.out; have hcz41_0 : w39.cell? ⟨gb104, 0, none⟩ = some (.int .i64 0) := (blk_cell BK104.out 0).trans rfl; have hcz41_1 : w39.cell? ⟨gb104, 1, none⟩ = some (.int .i64 0) := (blk_cell BK104.out 1).trans rfl; have hcz41_2 : w39.cell? ⟨gb104, 2, none⟩ = some (.int .i64 0) := (blk_cell BK104.out 2).trans rfl; have hfz41_0 := blk_frozen BK104.out 0; have hfz41_1 := blk_frozen BK104.out 1; have hfz41_2 := blk_frozen BK104.out 2; have hcz42_0 : w39.cell? ⟨gb102, 0, none⟩ = some (.int .i64 ((rd_T39 l0 x9_1).f0)) := (blk_cell BK102.out 0).trans rfl; have hcz42_1 : w39.cell? ⟨gb102, 1, none⟩ = some (.int .i64 ((rd_T39 l0 x9_1).f1)) := (blk_cell BK102.out 1).trans rfl; have hcz42_2 : w39.cell? ⟨gb102, 2, none⟩ = some (.int .i64 ((rd_T39 l0 x9_1).f2)) := (blk_cell BK102.out 2).trans rfl; have hfz42_0 := blk_frozen BK102.out 0; have hfz42_1 := blk_frozen BK102.out 1; have hfz42_2 := blk_frozen BK102.out 2))
                          go_roundg kj4
                          case measure => have := HK1.out; have := HJ4.out; omega
                          case rel => exact ⟨(wrap64 (x9_1 + 1)), (by first | rfl | (simp; done) | (simp [*]; done)), H', ⟨by have := HK1.out; have := HJ4.out; omega⟩, ⟨by repeat (first | (with_reducible first | exact HB.out | apply below_alloc | apply pw_below_drewN | apply below_drew1 | refine below_set ?_ GE102.out | refine below_set ?_ GE104.out) | exact HB.out)⟩⟩
                    · rw [if_neg c23] at H
                      exact absurd H (by simp)
                  · rw [if_neg c22] at H
                    exact absurd H (by simp)
        · rw [if_neg c4] at H
          exact absurd H (by simp)
      · rw [if_neg c3] at H
        exact absurd H (by simp)
    · rw [if_neg c2] at H
      have c2b0 : decide (x9_1 < (l0.length : Int)) = false := decide_eq_false c2
      clear c2
      obtain rfl := Option.some.inj H
      go_wp2
      go_ret
      exact ⟨by first | rfl | (simp [errW_none, errW_some] <;> rfl) | (simp [*, errW_none, errW_some] <;> rfl), by repeat with_reducible first | exact HB.out | apply below_alloc | apply pw_below_drewN | apply below_drew1⟩

end Go.Proofs.Ytigecigoomofdaa.PWindowTells
