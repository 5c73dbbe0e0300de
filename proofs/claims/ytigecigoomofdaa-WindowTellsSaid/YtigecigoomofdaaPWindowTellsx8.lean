-- By a program of this session (NOTES.md). Lean checks it.
import Derived.Test.YtigecigoomofdaaPWindowTellsx0
import Derived.Test.YtigecigoomofdaaPWindowTellsx7
namespace Go.Proofs.Ytigecigoomofdaa.PWindowTells
open Go.RowKit Go.Proofs.YtigecigoomofdaaW.PrintWords Go.Proofs.YtigecigoomofdaaW.PrintLast Go.Proofs.YtigecigoomofdaaW.PrintMore
attribute [local go_sem] max2_int min2_int max_two min_two max_three min_three max_four min_four   -- for this text's walks alone
set_option linter.unusedVariables false
set_option linter.unusedSimpArgs false

/-! ### ferruleref9_Range: function 36 -/
mutual
def ferruleref9_Range.l0 : Nat → List Int → Int → Int → List (S38) → Int → Option ((List (S38)))
  | 0, _, _, _, _, _ => none
  | k + 1, x0, x1, x2, x7, x8 => if x8 < (wrap64 (x1 + x2)) then (if x8 > x1 then (if 0 ≤ x8 then (if x8 < (x0.length : Int) then (if (rd x0 x8) < 0 then (if 0 ≤ (wrap64 (x8 - 1)) then (if (wrap64 (x8 - 1)) < (x0.length : Int) then (if (rd x0 (wrap64 (x8 - 1))) < 0 then (ferruleref9_Range.j1 k x0 x1 x2 x7 x8 true) else (if (rd x0 x8) ≥ 0 then (if (rd x0 (wrap64 (x8 - 1))) ≥ 0 then (ferruleref9_Range.j1 k x0 x1 x2 x7 x8 ((wrap64 ((rd x0 (wrap64 (x8 - 1))) + 1)) == (rd x0 x8))) else (ferruleref9_Range.j1 k x0 x1 x2 x7 x8 false)) else (ferruleref9_Range.j1 k x0 x1 x2 x7 x8 false))) else (none)) else (none)) else (if (rd x0 x8) ≥ 0 then (if 0 ≤ (wrap64 (x8 - 1)) then (if (wrap64 (x8 - 1)) < (x0.length : Int) then (if (rd x0 (wrap64 (x8 - 1))) ≥ 0 then (ferruleref9_Range.j1 k x0 x1 x2 x7 x8 ((wrap64 ((rd x0 (wrap64 (x8 - 1))) + 1)) == (rd x0 x8))) else (ferruleref9_Range.j1 k x0 x1 x2 x7 x8 false)) else (none)) else (none)) else (ferruleref9_Range.j1 k x0 x1 x2 x7 x8 false))) else (none)) else (none)) else (ferruleref9_Range.j1 k x0 x1 x2 x7 x8 false)) else (some x7)
def ferruleref9_Range.j1 : Nat → List Int → Int → Int → List (S38) → Int → Bool → Option ((List (S38)))
  | 0, _, _, _, _, _, _ => none
  | k + 1, x0, x1, x2, x7, x8, x64 => if x64 = true then (if 0 ≤ (wrap64 ((x7.length : Int) - 1)) then (if (wrap64 ((x7.length : Int) - 1)) < (x7.length : Int) then (ferruleref9_Range.l0 k x0 x1 x2 (x7.set ((wrap64 ((x7.length : Int) - 1)) : Int).toNat (⟨(rd_T38 x7 (wrap64 ((x7.length : Int) - 1))).f0, wrap64 (((rd_T38 x7 (wrap64 ((x7.length : Int) - 1))).f1) + 1), (rd_T38 x7 (wrap64 ((x7.length : Int) - 1))).f2⟩ : S38)) (wrap64 (x8 + 1))) else (none)) else (none)) else (if 0 ≤ x8 then (if x8 < (x0.length : Int) then (if (rd x0 x8) ≥ 0 then (if x7.length < 5864062014805 then (ferruleref9_Range.l0 k x0 x1 x2 (x7 ++ [(⟨x8, 1, rd x0 x8⟩ : S38)]) (wrap64 (x8 + 1))) else (none)) else (if x7.length < 5864062014805 then (ferruleref9_Range.l0 k x0 x1 x2 (x7 ++ [(⟨x8, 1, (-1)⟩ : S38)]) (wrap64 (x8 + 1))) else (none))) else (none)) else (none))
end
def ferruleref9_Range.f (k : Nat) (l0 : List Int) (a1 : Int) (a2 : Int) : Option ((List (S38))) := if 0 ≤ 11728124029610 then (ferruleref9_Range.l0 k l0 a1 a2 (List.replicate 0 z38) a1) else (none)
theorem ferruleref9_Range.mono_l : ∀ k, (∀ y0 y1 y2 y3 y4, LeO (ferruleref9_Range.l0 k y0 y1 y2 y3 y4) (ferruleref9_Range.l0 (k + 1) y0 y1 y2 y3 y4)) ∧ (∀ y0 y1 y2 y3 y4 y5, LeO (ferruleref9_Range.j1 k y0 y1 y2 y3 y4 y5) (ferruleref9_Range.j1 (k + 1) y0 y1 y2 y3 y4 y5))
  | 0 => ⟨fun _ _ _ _ _ r h => by simp [ferruleref9_Range.l0] at h, fun _ _ _ _ _ _ r h => by simp [ferruleref9_Range.j1] at h⟩
  | k + 1 => by
    obtain ⟨ih0, ih1⟩ := ferruleref9_Range.mono_l k
    refine ⟨?_, ?_⟩
    · intro y0 y1 y2 y3 y4
      unfold ferruleref9_Range.l0
      repeat' first
      | (with_reducible exact ih0 _ _ _ _ _)
      | (with_reducible exact ih1 _ _ _ _ _ _)
      | (with_reducible exact LeO.refl _)
      | (with_reducible exact LeO.none _)
      | (with_reducible refine LeO.ite ?_ ?_)
      | (with_reducible refine LeO.bind ?_ (fun _ => ?_))
      | exact ih0 _ _ _ _ _
      | exact ih1 _ _ _ _ _ _
      | exact LeO.none _
      | refine LeO.ite ?_ ?_
      | refine LeO.bind ?_ (fun _ => ?_)
    · intro y0 y1 y2 y3 y4 y5
      unfold ferruleref9_Range.j1
      repeat' first
      | (with_reducible exact ih0 _ _ _ _ _)
      | (with_reducible exact ih1 _ _ _ _ _ _)
      | (with_reducible exact LeO.refl _)
      | (with_reducible exact LeO.none _)
      | (with_reducible refine LeO.ite ?_ ?_)
      | (with_reducible refine LeO.bind ?_ (fun _ => ?_))
      | exact ih0 _ _ _ _ _
      | exact ih1 _ _ _ _ _ _
      | exact LeO.none _
      | refine LeO.ite ?_ ?_
      | refine LeO.bind ?_ (fun _ => ?_)
theorem ferruleref9_Range.mono : ∀ a0 a1 a2 k, LeO (ferruleref9_Range.f k a0 a1 a2) (ferruleref9_Range.f (k + 1) a0 a1 a2) := by
  intro a0 a1 a2 k
  obtain ⟨ih0, ih1⟩ := ferruleref9_Range.mono_l k
  unfold ferruleref9_Range.f
  repeat' first
      | (with_reducible exact ih0 _ _ _ _ _)
      | (with_reducible exact ih1 _ _ _ _ _ _)
      | (with_reducible exact LeO.refl _)
      | (with_reducible exact LeO.none _)
      | (with_reducible refine LeO.ite ?_ ?_)
      | (with_reducible refine LeO.bind ?_ (fun _ => ?_))
      | exact ih0 _ _ _ _ _
      | exact ih1 _ _ _ _ _ _
      | exact LeO.none _
      | refine LeO.ite ?_ ?_
      | refine LeO.bind ?_ (fun _ => ?_)
set_option maxHeartbeats 8000000 in
set_option maxRecDepth 100000 in
theorem ferruleref9_Range.calls (k : Nat) (A0 : Option Addr) (c0 : Nat) (l0 : List Int) (a1 : Int) (a2 : Int) (r : List (S38)) (w : World) (hr0 : Kd.C (Kd.int .i64) w A0 l0.length l0) (hc0 : l0.length ≤ c0) (h : ferruleref9_Range.f k l0 a1 a2 = some r) :
    Calls Try.prog 36 #[.slice A0 l0.length c0, .int .i64 a1, .int .i64 a2] w fun e w' => ∃ v0_ : Value, e = .returned (v0_) ∧ Kd.R k38 38 w' w.heap.size (fun _ => True) v0_ r ∧ Below w.heap.size w w' := by
 have hu38 := Try.underlying38
 have HR0 := Aside0.mk hr0
 have HC0 := Aside0.mk hc0
 clear hr0 hc0
 have HB := Aside0.mk (Below.refl w.heap.size w)
 have H : (if 0 ≤ 11728124029610 then (ferruleref9_Range.l0 k l0 a1 a2 (List.replicate 0 z38) a1) else (none)) = some r := h
 clear h
 by_cases c4 : 0 ≤ 11728124029610
 {
 rw [if_pos c4] at H
 have c4b0 := eq_true c4
 have c4b1 : decide (0 ≤ 11728124029610) = true := decide_eq_true c4
 clear c4
 obtain ⟨y202, hy202⟩ : ∃ y_ : List (S38), y_ = (List.replicate 0 z38) := ⟨_, rfl⟩
 replace H : (ferruleref9_Range.l0 k l0 a1 a2 y202 a1) = some r := by first | (rw [hy202]; with_reducible exact H) | (have H2_ := (Option.bind_some _ _).symm.trans H; rw [hy202]; with_reducible exact H2_) | (have H2_ := (Option.bind_some _ _).symm.trans H; with_reducible exact H2_) | with_reducible exact H | (rw [hy202]; exact H) | exact H
 have Ny202 := Aside0.mk hy202
 clear hy202
 have H' := Aside0.mk H
 clear H
 go_enter Try.func36, Try.ntmps36
 go_wp2_with (first | ((with_reducible refine gate_dst (N := 10) rfl ?_); refine Kd.R_make k38 _ 38 rfl (N := 10) rfl 23 _ _ rfl 0 rfl rfl Try.underlying23 (.agg #[(.int .i64 0), (.int .i64 0), (.int .i64 0)]) 24 info38 rfl (by decide) (by omega) z38 (ok := fun _ => True) (okp := fun _ => True) (k38_mkM _ _ _ z38 ) (fun _ hk => hk) trivial (by omega) (by omega) (Below.refl _ _) (Nat.le_refl _) ?_; intro v203 w5 ho6 hb hg_ hnew_; clear hg_ hnew_; (first | rw [← Ny202.out] at ho6 | (simp only [Int.reduceToNat] at ho6; rw [← Ny202.out] at ho6)); have n0_ := Aside0.mk (Kd.R_lower ho6 (below_size (by repeat with_reducible first | exact HB.out | apply below_alloc | apply pw_below_drewN | apply below_drew1))); have n1_ := Aside0.mk (below_step (by repeat with_reducible first | exact HB.out | apply below_alloc | apply pw_below_drewN | apply below_drew1) hb); clear HB; have HO204 := n0_; have HB := n1_; clear n0_ n1_; clear hb ho6))
 repeat (go_quiet (first | ((with_reducible refine gate_dst (N := 10) rfl ?_); refine Kd.R_make k38 _ 38 rfl (N := 10) rfl 23 _ _ rfl 0 rfl rfl Try.underlying23 (.agg #[(.int .i64 0), (.int .i64 0), (.int .i64 0)]) 24 info38 rfl (by decide) (by omega) z38 (ok := fun _ => True) (okp := fun _ => True) (k38_mkM _ _ _ z38 ) (fun _ hk => hk) trivial (by omega) (by omega) (Below.refl _ _) (Nat.le_refl _) ?_; intro v203 w5 ho6 hb hg_ hnew_; clear hg_ hnew_; (first | rw [← Ny202.out] at ho6 | (simp only [Int.reduceToNat] at ho6; rw [← Ny202.out] at ho6)); have n0_ := Aside0.mk (Kd.R_lower ho6 (below_size (by repeat with_reducible first | exact HB.out | apply below_alloc | apply pw_below_drewN | apply below_drew1))); have n1_ := Aside0.mk (below_step (by repeat with_reducible first | exact HB.out | apply below_alloc | apply pw_below_drewN | apply below_drew1) hb); clear HB; have HO204 := n0_; have HB := n1_; clear n0_ n1_; clear hb ho6)); try go_wp2_with (first | ((with_reducible refine gate_dst (N := 10) rfl ?_); refine Kd.R_make k38 _ 38 rfl (N := 10) rfl 23 _ _ rfl 0 rfl rfl Try.underlying23 (.agg #[(.int .i64 0), (.int .i64 0), (.int .i64 0)]) 24 info38 rfl (by decide) (by omega) z38 (ok := fun _ => True) (okp := fun _ => True) (k38_mkM _ _ _ z38 ) (fun _ hk => hk) trivial (by omega) (by omega) (Below.refl _ _) (Nat.le_refl _) ?_; intro v203 w5 ho6 hb hg_ hnew_; clear hg_ hnew_; (first | rw [← Ny202.out] at ho6 | (simp only [Int.reduceToNat] at ho6; rw [← Ny202.out] at ho6)); have n0_ := Aside0.mk (Kd.R_lower ho6 (below_size (by repeat with_reducible first | exact HB.out | apply below_alloc | apply pw_below_drewN | apply below_drew1))); have n1_ := Aside0.mk (below_step (by repeat with_reducible first | exact HB.out | apply below_alloc | apply pw_below_drewN | apply below_drew1) hb); clear HB; have HO204 := n0_; have HB := n1_; clear n0_ n1_; clear hb ho6)))
 go_loopg [7, 8] k (fun kq v7 v8 w' => ∃ (x7_1 : List (S38)) (x8_1 : Int), v8 = .int .i64 x8_1 ∧ Aside0 (ferruleref9_Range.l0 kq l0 a1 a2 x7_1 x8_1 = some r) ∧ Aside0 (kq ≤ k) ∧ Aside0 (Kd.R k38 38 w' w.heap.size (fun _ => True) v7 x7_1) ∧ Aside0 (Below w.heap.size w w'))
 case atStart => exact ⟨(y202), (a1), (by first | rfl | (simp; done) | (simp [*]; done)), H', ⟨Nat.le_refl _⟩, ⟨by (with_reducible repeat (first | apply Kd.R_alloc | apply Kd.R_drewN | apply Kd.R_drew)); exact HO204.out⟩, ⟨by repeat with_reducible first | exact HB.out | apply below_alloc | apply pw_below_drewN | apply below_drew1⟩⟩
 case round =>
  clear H'
  try clear p2
  try clear c3
  try clear c4
  try clear c4b0
  try clear c4b1
  obtain ⟨x7_1, x8_1, rfl, HA, HK1, HO_7, HB⟩ := hrel
  cases gk with
  | zero => exact absurd HA.out (by simp [ferruleref9_Range.l0])
  | succ k1 =>
    have H := HA.out
    clear HA
    simp only [ferruleref9_Range.l0] at H
    by_cases c7 : x8_1 < (wrap64 (a1 + a2))
    · rw [if_pos c7] at H
      have c7b0 : decide (x8_1 < (wrap64 (a1 + a2))) = true := decide_eq_true c7
      clear c7
      have HC8 := Aside0.mk H
      clear H
      go_upto_region 5 with (fail)
      repeat (go_quiet (fail); go_upto_region 5 with (fail))
      go_cut [64] (fun v64 wc => ∃ (kq : Nat) (x64_7 : Bool), v64 = .bool x64_7 ∧ Aside0 (ferruleref9_Range.j1 kq l0 a1 a2 x7_1 x8_1 x64_7 = some r) ∧ Aside0 (kq ≤ k1) ∧ Aside0 (Kd.R k38 38 wc w.heap.size (fun _ => True) u7 x7_1) ∧ Aside0 (Below w.heap.size w wc))
      case first =>
        have H := HC8.out
        clear HC8
        by_cases c9 : x8_1 > a1
        · rw [if_pos c9] at H
          have c9b0 : decide (a1 < x8_1) = true := decide_eq_true c9
          clear c9
          (first | rw [c9b0] | (simp only [i64_w, i32_w]; rw [c9b0]) | skip)
          by_cases c10 : 0 ≤ x8_1
          · rw [if_pos c10] at H
            have c10b0 : decide (0 ≤ x8_1) = true := decide_eq_true c10
            clear c10
            by_cases c11 : x8_1 < (l0.length : Int)
            · rw [if_pos c11] at H
              have c11b0 : decide (x8_1 < (l0.length : Int)) = true := decide_eq_true c11
              clear c11
              by_cases c12 : (rd l0 x8_1) < 0
              · rw [if_pos c12] at H
                have c12b0 : decide ((rd l0 x8_1) < 0) = true := decide_eq_true c12
                clear c12
                obtain ⟨ji13, hji13⟩ : ∃ j_ : Int, (wrap64 (x8_1 - 1)) = j_ := ⟨_, rfl⟩
                replace H : (if 0 ≤ (ji13) then (if (ji13) < (l0.length : Int) then (if (rd l0 (ji13)) < 0 then (ferruleref9_Range.j1 k1 l0 a1 a2 x7_1 x8_1 true) else (if (rd l0 x8_1) ≥ 0 then (if (rd l0 (ji13)) ≥ 0 then (ferruleref9_Range.j1 k1 l0 a1 a2 x7_1 x8_1 ((wrap64 ((rd l0 (ji13)) + 1)) == (rd l0 x8_1))) else (ferruleref9_Range.j1 k1 l0 a1 a2 x7_1 x8_1 false)) else (ferruleref9_Range.j1 k1 l0 a1 a2 x7_1 x8_1 false))) else (none)) else (none)) = some r := by first | (rw [hji13] at H; exact H) | (simp only [hji13] at H ⊢; exact H)
                have hji13w : (IntKind.i64.wrap (x8_1 - 1)) = ji13 := (i64_w _).trans hji13
                by_cases c14 : 0 ≤ (ji13)
                · rw [if_pos c14] at H
                  have c14b0 : decide (0 ≤ (ji13)) = true := decide_eq_true c14
                  clear c14
                  by_cases c15 : (ji13) < (l0.length : Int)
                  · rw [if_pos c15] at H
                    have c15b0 : decide ((ji13) < (l0.length : Int)) = true := decide_eq_true c15
                    clear c15
                    by_cases c16 : (rd l0 (ji13)) < 0
                    · rw [if_pos c16] at H
                      have c16b0 : decide ((rd l0 (ji13)) < 0) = true := decide_eq_true c16
                      clear c16
                      have H' := Aside0.mk H
                      clear H
                      have p205 : 0 ≤ (x8_1 : Int) := of_decide_eq_true (by with_reducible assumption)
                      have q205 : x8_1 < (l0.length : Int) := of_decide_eq_true (by with_reducible assumption)
                      obtain ⟨ad205, e205, hx205_0⟩ := Kd.at_int HR0.out x8_1 p205 q205
                      cases e205
                      replace hx205_0 := (HB.out.cell (World.block_lt_of_cell? w _ hx205_0)).trans hx205_0
                      replace p205 := eq_true p205
                      replace q205 := eq_true q205
                      have p206 : 0 ≤ ((ji13) : Int) := of_decide_eq_true (by with_reducible assumption)
                      have q206 : (ji13) < (l0.length : Int) := of_decide_eq_true (by with_reducible assumption)
                      obtain ⟨ad206, e206, hx206_0⟩ := Kd.at_int HR0.out (ji13) p206 q206
                      obtain rfl : ad205 = ad206 := (by injection e206)
                      replace hx206_0 := (HB.out.cell (World.block_lt_of_cell? w _ hx206_0)).trans hx206_0
                      replace p206 := eq_true p206
                      replace q206 := eq_true q206
                      go_wp2
                      repeat (go_quiet (fail); try go_wp2)
                      go_meet
                      case rel => exact ⟨_, (true), (by first | rfl | (simp; done) | (simp [*]; done)), H', ⟨by have := HK1.out; first | omega | exact Nat.le_refl _⟩, ⟨by (with_reducible repeat (first | apply Kd.R_alloc | apply Kd.R_drewN | apply Kd.R_drew)); exact HO_7.out⟩, ⟨by repeat with_reducible first | exact HB.out | apply below_alloc | apply pw_below_drewN | apply below_drew1⟩⟩
                    · rw [if_neg c16] at H
                      have c16b0 : decide ((rd l0 (ji13)) < 0) = false := decide_eq_false c16
                      clear c16
                      by_cases c17 : (rd l0 x8_1) ≥ 0
                      · rw [if_pos c17] at H
                        have c17b0 : decide (0 ≤ (rd l0 x8_1)) = true := decide_eq_true c17
                        clear c17
                        by_cases c18 : (rd l0 (ji13)) ≥ 0
                        · rw [if_pos c18] at H
                          have c18b0 : decide (0 ≤ (rd l0 (ji13))) = true := decide_eq_true c18
                          clear c18
                          have H' := Aside0.mk H
                          clear H
                          have p205 : 0 ≤ (x8_1 : Int) := of_decide_eq_true (by with_reducible assumption)
                          have q205 : x8_1 < (l0.length : Int) := of_decide_eq_true (by with_reducible assumption)
                          obtain ⟨ad205, e205, hx205_0⟩ := Kd.at_int HR0.out x8_1 p205 q205
                          cases e205
                          replace hx205_0 := (HB.out.cell (World.block_lt_of_cell? w _ hx205_0)).trans hx205_0
                          replace p205 := eq_true p205
                          replace q205 := eq_true q205
                          have p206 : 0 ≤ ((ji13) : Int) := of_decide_eq_true (by with_reducible assumption)
                          have q206 : (ji13) < (l0.length : Int) := of_decide_eq_true (by with_reducible assumption)
                          obtain ⟨ad206, e206, hx206_0⟩ := Kd.at_int HR0.out (ji13) p206 q206
                          obtain rfl : ad205 = ad206 := (by injection e206)
                          replace hx206_0 := (HB.out.cell (World.block_lt_of_cell? w _ hx206_0)).trans hx206_0
                          replace p206 := eq_true p206
                          replace q206 := eq_true q206
                          have p207 : 0 ≤ (x8_1 : Int) := of_decide_eq_true (by with_reducible assumption)
                          have q207 : x8_1 < (l0.length : Int) := of_decide_eq_true (by with_reducible assumption)
                          obtain ⟨ad207, e207, hx207_0⟩ := Kd.at_int HR0.out x8_1 p207 q207
                          obtain rfl : ad205 = ad207 := (by injection e207)
                          replace hx207_0 := (HB.out.cell (World.block_lt_of_cell? w _ hx207_0)).trans hx207_0
                          replace p207 := eq_true p207
                          replace q207 := eq_true q207
                          have p208 : 0 ≤ ((ji13) : Int) := of_decide_eq_true (by with_reducible assumption)
                          have q208 : (ji13) < (l0.length : Int) := of_decide_eq_true (by with_reducible assumption)
                          obtain ⟨ad208, e208, hx208_0⟩ := Kd.at_int HR0.out (ji13) p208 q208
                          obtain rfl : ad205 = ad208 := (by injection e208)
                          replace hx208_0 := (HB.out.cell (World.block_lt_of_cell? w _ hx208_0)).trans hx208_0
                          replace p208 := eq_true p208
                          replace q208 := eq_true q208
                          have p209 : 0 ≤ ((ji13) : Int) := of_decide_eq_true (by with_reducible assumption)
                          have q209 : (ji13) < (l0.length : Int) := of_decide_eq_true (by with_reducible assumption)
                          obtain ⟨ad209, e209, hx209_0⟩ := Kd.at_int HR0.out (ji13) p209 q209
                          obtain rfl : ad205 = ad209 := (by injection e209)
                          replace hx209_0 := (HB.out.cell (World.block_lt_of_cell? w _ hx209_0)).trans hx209_0
                          replace p209 := eq_true p209
                          replace q209 := eq_true q209
                          have p210 : 0 ≤ (x8_1 : Int) := of_decide_eq_true (by with_reducible assumption)
                          have q210 : x8_1 < (l0.length : Int) := of_decide_eq_true (by with_reducible assumption)
                          obtain ⟨ad210, e210, hx210_0⟩ := Kd.at_int HR0.out x8_1 p210 q210
                          obtain rfl : ad205 = ad210 := (by injection e210)
                          replace hx210_0 := (HB.out.cell (World.block_lt_of_cell? w _ hx210_0)).trans hx210_0
                          replace p210 := eq_true p210
                          replace q210 := eq_true q210
                          go_wp2
                          repeat (go_quiet (fail); try go_wp2)
                          go_meet
                          case rel => exact ⟨_, (((wrap64 ((rd l0 (ji13)) + 1)) == (rd l0 x8_1))), (by first | rfl | (simp; done) | (simp only [← hji13] <;> (first | rfl | simp)) | (simp [*]; done)), H', ⟨by have := HK1.out; first | omega | exact Nat.le_refl _⟩, ⟨by (with_reducible repeat (first | apply Kd.R_alloc | apply Kd.R_drewN | apply Kd.R_drew)); exact HO_7.out⟩, ⟨by repeat with_reducible first | exact HB.out | apply below_alloc | apply pw_below_drewN | apply below_drew1⟩⟩
                        · rw [if_neg c18] at H
                          have c18b0 : decide (0 ≤ (rd l0 (ji13))) = false := decide_eq_false c18
                          clear c18
                          have H' := Aside0.mk H
                          clear H
                          have p205 : 0 ≤ (x8_1 : Int) := of_decide_eq_true (by with_reducible assumption)
                          have q205 : x8_1 < (l0.length : Int) := of_decide_eq_true (by with_reducible assumption)
                          obtain ⟨ad205, e205, hx205_0⟩ := Kd.at_int HR0.out x8_1 p205 q205
                          cases e205
                          replace hx205_0 := (HB.out.cell (World.block_lt_of_cell? w _ hx205_0)).trans hx205_0
                          replace p205 := eq_true p205
                          replace q205 := eq_true q205
                          have p206 : 0 ≤ ((ji13) : Int) := of_decide_eq_true (by with_reducible assumption)
                          have q206 : (ji13) < (l0.length : Int) := of_decide_eq_true (by with_reducible assumption)
                          obtain ⟨ad206, e206, hx206_0⟩ := Kd.at_int HR0.out (ji13) p206 q206
                          obtain rfl : ad205 = ad206 := (by injection e206)
                          replace hx206_0 := (HB.out.cell (World.block_lt_of_cell? w _ hx206_0)).trans hx206_0
                          replace p206 := eq_true p206
                          replace q206 := eq_true q206
                          have p207 : 0 ≤ (x8_1 : Int) := of_decide_eq_true (by with_reducible assumption)
                          have q207 : x8_1 < (l0.length : Int) := of_decide_eq_true (by with_reducible assumption)
                          obtain ⟨ad207, e207, hx207_0⟩ := Kd.at_int HR0.out x8_1 p207 q207
                          obtain rfl : ad205 = ad207 := (by injection e207)
                          replace hx207_0 := (HB.out.cell (World.block_lt_of_cell? w _ hx207_0)).trans hx207_0
                          replace p207 := eq_true p207
                          replace q207 := eq_true q207
                          have p208 : 0 ≤ ((ji13) : Int) := of_decide_eq_true (by with_reducible assumption)
                          have q208 : (ji13) < (l0.length : Int) := of_decide_eq_true (by with_reducible assumption)
                          obtain ⟨ad208, e208, hx208_0⟩ := Kd.at_int HR0.out (ji13) p208 q208
                          obtain rfl : ad205 = ad208 := (by injection e208)
                          replace hx208_0 := (HB.out.cell (World.block_lt_of_cell? w _ hx208_0)).trans hx208_0
                          replace p208 := eq_true p208
                          replace q208 := eq_true q208
                          go_wp2
                          repeat (go_quiet (fail); try go_wp2)
                          go_meet
                          case rel => exact ⟨_, (false), (by first | rfl | (simp; done) | (simp [*]; done)), H', ⟨by have := HK1.out; first | omega | exact Nat.le_refl _⟩, ⟨by (with_reducible repeat (first | apply Kd.R_alloc | apply Kd.R_drewN | apply Kd.R_drew)); exact HO_7.out⟩, ⟨by repeat with_reducible first | exact HB.out | apply below_alloc | apply pw_below_drewN | apply below_drew1⟩⟩
                      · rw [if_neg c17] at H
                        have c17b0 : decide (0 ≤ (rd l0 x8_1)) = false := decide_eq_false c17
                        clear c17
                        have H' := Aside0.mk H
                        clear H
                        have p205 : 0 ≤ (x8_1 : Int) := of_decide_eq_true (by with_reducible assumption)
                        have q205 : x8_1 < (l0.length : Int) := of_decide_eq_true (by with_reducible assumption)
                        obtain ⟨ad205, e205, hx205_0⟩ := Kd.at_int HR0.out x8_1 p205 q205
                        cases e205
                        replace hx205_0 := (HB.out.cell (World.block_lt_of_cell? w _ hx205_0)).trans hx205_0
                        replace p205 := eq_true p205
                        replace q205 := eq_true q205
                        have p206 : 0 ≤ ((ji13) : Int) := of_decide_eq_true (by with_reducible assumption)
                        have q206 : (ji13) < (l0.length : Int) := of_decide_eq_true (by with_reducible assumption)
                        obtain ⟨ad206, e206, hx206_0⟩ := Kd.at_int HR0.out (ji13) p206 q206
                        obtain rfl : ad205 = ad206 := (by injection e206)
                        replace hx206_0 := (HB.out.cell (World.block_lt_of_cell? w _ hx206_0)).trans hx206_0
                        replace p206 := eq_true p206
                        replace q206 := eq_true q206
                        have p207 : 0 ≤ (x8_1 : Int) := of_decide_eq_true (by with_reducible assumption)
                        have q207 : x8_1 < (l0.length : Int) := of_decide_eq_true (by with_reducible assumption)
                        obtain ⟨ad207, e207, hx207_0⟩ := Kd.at_int HR0.out x8_1 p207 q207
                        obtain rfl : ad205 = ad207 := (by injection e207)
                        replace hx207_0 := (HB.out.cell (World.block_lt_of_cell? w _ hx207_0)).trans hx207_0
                        replace p207 := eq_true p207
                        replace q207 := eq_true q207
                        go_wp2
                        repeat (go_quiet (fail); try go_wp2)
                        go_meet
                        case rel => exact ⟨_, (false), (by first | rfl | (simp; done) | (simp [*]; done)), H', ⟨by have := HK1.out; first | omega | exact Nat.le_refl _⟩, ⟨by (with_reducible repeat (first | apply Kd.R_alloc | apply Kd.R_drewN | apply Kd.R_drew)); exact HO_7.out⟩, ⟨by repeat with_reducible first | exact HB.out | apply below_alloc | apply pw_below_drewN | apply below_drew1⟩⟩
                  · rw [if_neg c15] at H
                    exact absurd H (by simp)
                · rw [if_neg c14] at H
                  exact absurd H (by simp)
              · rw [if_neg c12] at H
                have c12b0 : decide ((rd l0 x8_1) < 0) = false := decide_eq_false c12
                clear c12
                by_cases c19 : (rd l0 x8_1) ≥ 0
                · rw [if_pos c19] at H
                  have c19b0 : decide (0 ≤ (rd l0 x8_1)) = true := decide_eq_true c19
                  clear c19
                  obtain ⟨ji20, hji20⟩ : ∃ j_ : Int, (wrap64 (x8_1 - 1)) = j_ := ⟨_, rfl⟩
                  replace H : (if 0 ≤ (ji20) then (if (ji20) < (l0.length : Int) then (if (rd l0 (ji20)) ≥ 0 then (ferruleref9_Range.j1 k1 l0 a1 a2 x7_1 x8_1 ((wrap64 ((rd l0 (ji20)) + 1)) == (rd l0 x8_1))) else (ferruleref9_Range.j1 k1 l0 a1 a2 x7_1 x8_1 false)) else (none)) else (none)) = some r := by first | (rw [hji20] at H; exact H) | (simp only [hji20] at H ⊢; exact H)
                  have hji20w : (IntKind.i64.wrap (x8_1 - 1)) = ji20 := (i64_w _).trans hji20
                  by_cases c21 : 0 ≤ (ji20)
                  · rw [if_pos c21] at H
                    have c21b0 : decide (0 ≤ (ji20)) = true := decide_eq_true c21
                    clear c21
                    by_cases c22 : (ji20) < (l0.length : Int)
                    · rw [if_pos c22] at H
                      have c22b0 : decide ((ji20) < (l0.length : Int)) = true := decide_eq_true c22
                      clear c22
                      by_cases c23 : (rd l0 (ji20)) ≥ 0
                      · rw [if_pos c23] at H
                        have c23b0 : decide (0 ≤ (rd l0 (ji20))) = true := decide_eq_true c23
                        clear c23
                        have H' := Aside0.mk H
                        clear H
                        have p205 : 0 ≤ (x8_1 : Int) := of_decide_eq_true (by with_reducible assumption)
                        have q205 : x8_1 < (l0.length : Int) := of_decide_eq_true (by with_reducible assumption)
                        obtain ⟨ad205, e205, hx205_0⟩ := Kd.at_int HR0.out x8_1 p205 q205
                        cases e205
                        replace hx205_0 := (HB.out.cell (World.block_lt_of_cell? w _ hx205_0)).trans hx205_0
                        replace p205 := eq_true p205
                        replace q205 := eq_true q205
                        have p211 : 0 ≤ (x8_1 : Int) := of_decide_eq_true (by with_reducible assumption)
                        have q211 : x8_1 < (l0.length : Int) := of_decide_eq_true (by with_reducible assumption)
                        obtain ⟨ad211, e211, hx211_0⟩ := Kd.at_int HR0.out x8_1 p211 q211
                        obtain rfl : ad205 = ad211 := (by injection e211)
                        replace hx211_0 := (HB.out.cell (World.block_lt_of_cell? w _ hx211_0)).trans hx211_0
                        replace p211 := eq_true p211
                        replace q211 := eq_true q211
                        have p212 : 0 ≤ ((ji20) : Int) := of_decide_eq_true (by with_reducible assumption)
                        have q212 : (ji20) < (l0.length : Int) := of_decide_eq_true (by with_reducible assumption)
                        obtain ⟨ad212, e212, hx212_0⟩ := Kd.at_int HR0.out (ji20) p212 q212
                        obtain rfl : ad205 = ad212 := (by injection e212)
                        replace hx212_0 := (HB.out.cell (World.block_lt_of_cell? w _ hx212_0)).trans hx212_0
                        replace p212 := eq_true p212
                        replace q212 := eq_true q212
                        have p213 : 0 ≤ ((ji20) : Int) := of_decide_eq_true (by with_reducible assumption)
                        have q213 : (ji20) < (l0.length : Int) := of_decide_eq_true (by with_reducible assumption)
                        obtain ⟨ad213, e213, hx213_0⟩ := Kd.at_int HR0.out (ji20) p213 q213
                        obtain rfl : ad205 = ad213 := (by injection e213)
                        replace hx213_0 := (HB.out.cell (World.block_lt_of_cell? w _ hx213_0)).trans hx213_0
                        replace p213 := eq_true p213
                        replace q213 := eq_true q213
                        have p214 : 0 ≤ (x8_1 : Int) := of_decide_eq_true (by with_reducible assumption)
                        have q214 : x8_1 < (l0.length : Int) := of_decide_eq_true (by with_reducible assumption)
                        obtain ⟨ad214, e214, hx214_0⟩ := Kd.at_int HR0.out x8_1 p214 q214
                        obtain rfl : ad205 = ad214 := (by injection e214)
                        replace hx214_0 := (HB.out.cell (World.block_lt_of_cell? w _ hx214_0)).trans hx214_0
                        replace p214 := eq_true p214
                        replace q214 := eq_true q214
                        go_wp2
                        repeat (go_quiet (fail); try go_wp2)
                        go_meet
                        case rel => exact ⟨_, (((wrap64 ((rd l0 (ji20)) + 1)) == (rd l0 x8_1))), (by first | rfl | (simp; done) | (simp only [← hji20] <;> (first | rfl | simp)) | (simp [*]; done)), H', ⟨by have := HK1.out; first | omega | exact Nat.le_refl _⟩, ⟨by (with_reducible repeat (first | apply Kd.R_alloc | apply Kd.R_drewN | apply Kd.R_drew)); exact HO_7.out⟩, ⟨by repeat with_reducible first | exact HB.out | apply below_alloc | apply pw_below_drewN | apply below_drew1⟩⟩
                      · rw [if_neg c23] at H
                        have c23b0 : decide (0 ≤ (rd l0 (ji20))) = false := decide_eq_false c23
                        clear c23
                        have H' := Aside0.mk H
                        clear H
                        have p205 : 0 ≤ (x8_1 : Int) := of_decide_eq_true (by with_reducible assumption)
                        have q205 : x8_1 < (l0.length : Int) := of_decide_eq_true (by with_reducible assumption)
                        obtain ⟨ad205, e205, hx205_0⟩ := Kd.at_int HR0.out x8_1 p205 q205
                        cases e205
                        replace hx205_0 := (HB.out.cell (World.block_lt_of_cell? w _ hx205_0)).trans hx205_0
                        replace p205 := eq_true p205
                        replace q205 := eq_true q205
                        have p211 : 0 ≤ (x8_1 : Int) := of_decide_eq_true (by with_reducible assumption)
                        have q211 : x8_1 < (l0.length : Int) := of_decide_eq_true (by with_reducible assumption)
                        obtain ⟨ad211, e211, hx211_0⟩ := Kd.at_int HR0.out x8_1 p211 q211
                        obtain rfl : ad205 = ad211 := (by injection e211)
                        replace hx211_0 := (HB.out.cell (World.block_lt_of_cell? w _ hx211_0)).trans hx211_0
                        replace p211 := eq_true p211
                        replace q211 := eq_true q211
                        have p212 : 0 ≤ ((ji20) : Int) := of_decide_eq_true (by with_reducible assumption)
                        have q212 : (ji20) < (l0.length : Int) := of_decide_eq_true (by with_reducible assumption)
                        obtain ⟨ad212, e212, hx212_0⟩ := Kd.at_int HR0.out (ji20) p212 q212
                        obtain rfl : ad205 = ad212 := (by injection e212)
                        replace hx212_0 := (HB.out.cell (World.block_lt_of_cell? w _ hx212_0)).trans hx212_0
                        replace p212 := eq_true p212
                        replace q212 := eq_true q212
                        go_wp2
                        repeat (go_quiet (fail); try go_wp2)
                        go_meet
                        case rel => exact ⟨_, (false), (by first | rfl | (simp; done) | (simp [*]; done)), H', ⟨by have := HK1.out; first | omega | exact Nat.le_refl _⟩, ⟨by (with_reducible repeat (first | apply Kd.R_alloc | apply Kd.R_drewN | apply Kd.R_drew)); exact HO_7.out⟩, ⟨by repeat with_reducible first | exact HB.out | apply below_alloc | apply pw_below_drewN | apply below_drew1⟩⟩
                    · rw [if_neg c22] at H
                      exact absurd H (by simp)
                  · rw [if_neg c21] at H
                    exact absurd H (by simp)
                · rw [if_neg c19] at H
                  have c19b0 : decide (0 ≤ (rd l0 x8_1)) = false := decide_eq_false c19
                  clear c19
                  have H' := Aside0.mk H
                  clear H
                  have p205 : 0 ≤ (x8_1 : Int) := of_decide_eq_true (by with_reducible assumption)
                  have q205 : x8_1 < (l0.length : Int) := of_decide_eq_true (by with_reducible assumption)
                  obtain ⟨ad205, e205, hx205_0⟩ := Kd.at_int HR0.out x8_1 p205 q205
                  cases e205
                  replace hx205_0 := (HB.out.cell (World.block_lt_of_cell? w _ hx205_0)).trans hx205_0
                  replace p205 := eq_true p205
                  replace q205 := eq_true q205
                  have p211 : 0 ≤ (x8_1 : Int) := of_decide_eq_true (by with_reducible assumption)
                  have q211 : x8_1 < (l0.length : Int) := of_decide_eq_true (by with_reducible assumption)
                  obtain ⟨ad211, e211, hx211_0⟩ := Kd.at_int HR0.out x8_1 p211 q211
                  obtain rfl : ad205 = ad211 := (by injection e211)
                  replace hx211_0 := (HB.out.cell (World.block_lt_of_cell? w _ hx211_0)).trans hx211_0
                  replace p211 := eq_true p211
                  replace q211 := eq_true q211
                  go_wp2
                  repeat (go_quiet (fail); try go_wp2)
                  go_meet
                  case rel => exact ⟨_, (false), (by first | rfl | (simp; done) | (simp [*]; done)), H', ⟨by have := HK1.out; first | omega | exact Nat.le_refl _⟩, ⟨by (with_reducible repeat (first | apply Kd.R_alloc | apply Kd.R_drewN | apply Kd.R_drew)); exact HO_7.out⟩, ⟨by repeat with_reducible first | exact HB.out | apply below_alloc | apply pw_below_drewN | apply below_drew1⟩⟩
            · rw [if_neg c11] at H
              exact absurd H (by simp)
          · rw [if_neg c10] at H
            exact absurd H (by simp)
        · rw [if_neg c9] at H
          have c9b0 : decide (a1 < x8_1) = false := decide_eq_false c9
          clear c9
          (first | rw [c9b0] | (simp only [i64_w, i32_w]; rw [c9b0]) | skip)
          have H' := Aside0.mk H
          clear H
          go_wp2
          repeat (go_quiet (fail); try go_wp2)
          go_meet
          case rel => exact ⟨_, (false), (by first | rfl | (simp; done) | (simp [*]; done)), H', ⟨by have := HK1.out; first | omega | exact Nat.le_refl _⟩, ⟨by (with_reducible repeat (first | apply Kd.R_alloc | apply Kd.R_drewN | apply Kd.R_drew)); exact HO_7.out⟩, ⟨by repeat with_reducible first | exact HB.out | apply below_alloc | apply pw_below_drewN | apply below_drew1⟩⟩
      case rest =>
        clear HC8
        try clear c1
        try clear c2
        try clear p2
        try clear q2
        try clear hx2
        try clear c3
        try clear c4
        try clear c4b0
        try clear c4b1
        try clear p6
        try clear c7
        try clear c7b0
        try clear c9
        try clear c9b0
        try clear c10
        try clear c10b0
        try clear c11
        try clear c11b0
        try clear c12
        try clear c12b0
        try clear c14
        try clear c14b0
        try clear c15
        try clear c15b0
        try clear c16
        try clear c16b0
        try clear c17
        try clear c17b0
        try clear c18
        try clear c18b0
        try clear c19
        try clear c19b0
        try clear p20
        try clear q20
        try clear hx20
        try clear c21
        try clear c21b0
        try clear p21
        try clear q21
        try clear hx21
        try clear c22
        try clear c22b0
        try clear c23
        try clear c23b0
        try clear hx205_0
        try clear hx206_0
        try clear hx207_0
        try clear hx208_0
        try clear hx209_0
        try clear hx210_0
        try clear hx211_0
        try clear hx212_0
        try clear hx213_0
        try clear hx214_0
        try clear p2
        try clear p205
        try clear p206
        try clear p207
        try clear p208
        try clear p209
        try clear p210
        try clear p211
        try clear p212
        try clear p213
        try clear p214
        try clear q205
        try clear q206
        try clear q207
        try clear q208
        try clear q209
        try clear q210
        try clear q211
        try clear q212
        try clear q213
        try clear q214
        obtain ⟨kq, x64_7, rfl, HA, HJ7, HO_7, HB⟩ := hcut
        cases kq with
        | zero => exact absurd HA.out (by simp [ferruleref9_Range.j1])
        | succ kj7 =>
          have H := HA.out
          clear HA
          simp only [ferruleref9_Range.j1] at H
          by_cases c24 : x64_7 = true
          · subst c24
            have H1 : (if 0 ≤ (wrap64 ((x7_1.length : Int) - 1)) then (if (wrap64 ((x7_1.length : Int) - 1)) < (x7_1.length : Int) then (ferruleref9_Range.l0 kj7 l0 a1 a2 (x7_1.set ((wrap64 ((x7_1.length : Int) - 1)) : Int).toNat (⟨(rd_T38 x7_1 (wrap64 ((x7_1.length : Int) - 1))).f0, wrap64 (((rd_T38 x7_1 (wrap64 ((x7_1.length : Int) - 1))).f1) + 1), (rd_T38 x7_1 (wrap64 ((x7_1.length : Int) - 1))).f2⟩ : S38)) (wrap64 (x8_1 + 1))) else (none)) else (none)) = some r := by rw [if_pos rfl] at H; exact H
            clear H
            have H := H1
            clear H1
            obtain ⟨ji25, hji25⟩ : ∃ j_ : Int, (wrap64 ((x7_1.length : Int) - 1)) = j_ := ⟨_, rfl⟩
            replace H : (if 0 ≤ (ji25) then (if (ji25) < (x7_1.length : Int) then (ferruleref9_Range.l0 kj7 l0 a1 a2 (x7_1.set ((ji25) : Int).toNat (⟨(rd_T38 x7_1 (ji25)).f0, wrap64 (((rd_T38 x7_1 (ji25)).f1) + 1), (rd_T38 x7_1 (ji25)).f2⟩ : S38)) (wrap64 (x8_1 + 1))) else (none)) else (none)) = some r := by first | (rw [hji25] at H; exact H) | (simp only [hji25] at H ⊢; exact H)
            have hji25w : (IntKind.i64.wrap ((x7_1.length : Int) - 1)) = ji25 := (i64_w _).trans hji25
            by_cases c26 : 0 ≤ (ji25)
            · rw [if_pos c26] at H
              have c26b0 : decide (0 ≤ (ji25)) = true := decide_eq_true c26
              clear c26
              by_cases c27 : (ji25) < (x7_1.length : Int)
              · rw [if_pos c27] at H
                have c27b0 : decide ((ji25) < (x7_1.length : Int)) = true := decide_eq_true c27
                clear c27
                obtain ⟨y216, hy216⟩ : ∃ y_ : List (S38), y_ = (x7_1.set ((ji25) : Int).toNat (⟨(rd_T38 x7_1 (ji25)).f0, wrap64 (((rd_T38 x7_1 (ji25)).f1) + 1), (rd_T38 x7_1 (ji25)).f2⟩ : S38)) := ⟨_, rfl⟩
                replace H : (ferruleref9_Range.l0 kj7 l0 a1 a2 y216 (wrap64 (x8_1 + 1))) = some r := by first | (rw [hy216]; with_reducible exact H) | (have H2_ := (Option.bind_some _ _).symm.trans H; rw [hy216]; with_reducible exact H2_) | (have H2_ := (Option.bind_some _ _).symm.trans H; with_reducible exact H2_) | with_reducible exact H | (rw [hy216]; exact H) | exact H
                have Ny216 := Aside0.mk hy216
                clear hy216
                have H' := Aside0.mk H
                clear H
                obtain ⟨Ao29, co29, eo29⟩ := Kd.R_slice HO_7.out
                subst eo29
                have p215 : 0 ≤ ((ji25) : Int) := of_decide_eq_true (by with_reducible assumption)
                have q215 : (ji25) < (x7_1.length : Int) := of_decide_eq_true (by with_reducible assumption)
                obtain ⟨ad215, e215, hx215_0, hx215_1, hx215_2⟩ := at_T38 (Kd.R_reads' HO_7.out).2.2 (ji25) p215 q215
                cases e215
                replace p215 := eq_true p215
                replace q215 := eq_true q215
                have p28 : 0 ≤ ((ji25) : Int) := of_decide_eq_true (by with_reducible assumption)
                have q28 : ((ji25) : Int) < ((x7_1.length : Int) : Int) := of_decide_eq_true (by with_reducible assumption)
                obtain ⟨go28, co28, eo28, gb28, gl28, cl28, HG28⟩ := Kd.R_form HO_7.out (by omega)
                (first | cases eo28 | (injection eo28 with ea_ en_ ec_; (first | subst ea_ | (injection ea_ with ea_; subst ea_)); subst ec_; clear en_))
                have GB28 := Aside0.mk gb28
                have GG28 := Aside0.mk HG28
                clear gb28 gl28 HG28
                (first | simp only [add_plain] at hx215_0 | skip)
                (first | simp only [add_plain] at hx215_1 | skip)
                (first | simp only [add_plain] at hx215_2 | skip)
                obtain ⟨ce28, hcl28, hM28, hcc28, hfr28⟩ := Kd.R_elem HO_7.out z38 ((ji25) : Int) p28 q28
                obtain rfl := k38_openM hM28
                have hx28_0 : wc.cell? ⟨go28, ((ji25) : Int).toNat * 3, none⟩ = some (.int .i64 ((rd_T38 x7_1 (ji25)).f0)) := hcc28 0 _ rfl
                have hx28_1 : wc.cell? ⟨go28, ((ji25) : Int).toNat * 3 + 1, none⟩ = some (.int .i64 ((rd_T38 x7_1 (ji25)).f1)) := hcc28 1 _ rfl
                have hx28_2 : wc.cell? ⟨go28, ((ji25) : Int).toNat * 3 + 2, none⟩ = some (.int .i64 ((rd_T38 x7_1 (ji25)).f2)) := hcc28 2 _ rfl
                have hf28_0 : wc.frozen? ⟨go28, ((ji25) : Int).toNat * 3, none⟩ = false := hfr28 0
                have hf28_1 : wc.frozen? ⟨go28, ((ji25) : Int).toNat * 3 + 1, none⟩ = false := hfr28 1
                have hf28_2 : wc.frozen? ⟨go28, ((ji25) : Int).toNat * 3 + 2, none⟩ = false := hfr28 2
                clear hcl28 hcc28 hfr28 hM28
                replace p28 := eq_true p28
                replace q28 := eq_true q28
                have HX30 := Aside0.mk (show Kd.R k38 38 wc w.heap.size (fun _ => True) (.slice (some ⟨go28, 0, none⟩) x7_1.length co29) x7_1 from (by (with_reducible repeat (first | apply Kd.R_alloc | apply Kd.R_drewN | apply Kd.R_drew)); exact HO_7.out))
                obtain ⟨ce30, hcl30, hM30, hcc30, hfr30⟩ := Kd.R_elem HX30.out z38 ((ji25) : Int) (of_decide_eq_true (by with_reducible assumption)) (by have h_ : ((ji25) : Int) < ((x7_1.length : Int) : Int) := of_decide_eq_true (by with_reducible assumption); first | exact h_ | (have e_ := (Kd.R_reads' HO_7.out).1; omega) | simpa using h_)
                obtain rfl := k38_openM hM30
                have HP30 := Kd.R_seg HX30.out ((ji25) : Int) (of_decide_eq_true (by with_reducible assumption)) (by have h_ : ((ji25) : Int) < ((x7_1.length : Int) : Int) := of_decide_eq_true (by with_reducible assumption); first | exact h_ | (have e_ := (Kd.R_reads' HO_7.out).1; omega) | simpa using h_) (seg := [.int .i64 (wrap64 (((rd_T38 x7_1 (ji25)).f1) + 1))]) (j := 1) hcl30 hcc30 (show 2 ≤ 3 from by decide) (x' := (⟨(rd_T38 x7_1 (ji25)).f0, wrap64 (((rd_T38 x7_1 (ji25)).f1) + 1), (rd_T38 x7_1 (ji25)).f2⟩ : S38)) (k38_mkM _ _ _ (⟨(rd_T38 x7_1 (ji25)).f0, wrap64 (((rd_T38 x7_1 (ji25)).f1) + 1), (rd_T38 x7_1 (ji25)).f2⟩ : S38) ) (fun _ hk => hk)
                have hx30_1 := hcc30 1 _ rfl
                (try simp only [show (k38).sz = 3 from rfl, Nat.mul_one, Nat.add_zero] at hx30_1)
                have hf30_1 := hfr30 1
                (try simp only [show (k38).sz = 3 from rfl, Nat.mul_one, Nat.add_zero] at hf30_1)
                clear hcl30 hcc30 hfr30 hM30
                go_wp2_with (first | ((with_reducible refine gate_store (t := 3) (p := 74) rfl ?_); (try (rw [drewN_self wc]; generalize hq_ : World.drewN wc _ = wc; have n0_ := Aside0.mk (Kd.R_at hq_ HO_7.out); have n1_ := Aside0.mk (below_at hq_ HB.out); clear hq_ HO_7 HB; have HO_7 := n0_; have HB := n1_; clear n0_ n1_; (try (have HX30 := Aside0.mk (show Kd.R k38 38 wc w.heap.size (fun _ => True) (.slice (some ⟨go28, 0, none⟩) x7_1.length co29) x7_1 from (by (with_reducible repeat (first | apply Kd.R_alloc | apply Kd.R_drewN | apply Kd.R_drew)); exact HO_7.out)))); (try (obtain ⟨ce30, hcl30, hM30, hcc30, hfr30⟩ := Kd.R_elem HX30.out z38 ((ji25) : Int) (of_decide_eq_true (by with_reducible assumption)) (by have h_ : ((ji25) : Int) < ((x7_1.length : Int) : Int) := of_decide_eq_true (by with_reducible assumption); first | exact h_ | (have e_ := (Kd.R_reads' HO_7.out).1; omega) | simpa using h_))); (try (obtain rfl := k38_openM hM30)); (try (have HP30 := Kd.R_seg HX30.out ((ji25) : Int) (of_decide_eq_true (by with_reducible assumption)) (by have h_ : ((ji25) : Int) < ((x7_1.length : Int) : Int) := of_decide_eq_true (by with_reducible assumption); first | exact h_ | (have e_ := (Kd.R_reads' HO_7.out).1; omega) | simpa using h_) (seg := [.int .i64 (wrap64 (((rd_T38 x7_1 (ji25)).f1) + 1))]) (j := 1) hcl30 hcc30 (show 2 ≤ 3 from by decide) (x' := (⟨(rd_T38 x7_1 (ji25)).f0, wrap64 (((rd_T38 x7_1 (ji25)).f1) + 1), (rd_T38 x7_1 (ji25)).f2⟩ : S38)) (k38_mkM _ _ _ (⟨(rd_T38 x7_1 (ji25)).f0, wrap64 (((rd_T38 x7_1 (ji25)).f1) + 1), (rd_T38 x7_1 (ji25)).f2⟩ : S38) ) (fun _ hk => hk))); (try (have hx30_1 := hcc30 1 _ rfl)); (try (try simp only [show (k38).sz = 3 from rfl, Nat.mul_one, Nat.add_zero] at hx30_1)); (try (have hf30_1 := hfr30 1)); (try (try simp only [show (k38).sz = 3 from rfl, Nat.mul_one, Nat.add_zero] at hf30_1)); (try (clear hcl30 hcc30 hfr30 hM30)))); refine store_event (t := 3) (p := 74) (v := ?vo_w31) (w1 := (wc.setCell ⟨go28, ((ji25) : Int).toNat * 3 + 1, none⟩ (.int .i64 (wrap64 (((rd_T38 x7_1 (ji25)).f1) + 1))))) ?hg ?ho ?hn ?hr ?_; (case ho => rfl); (case hg => rfl); (case hn => rfl); (case hr => first | (go_simp; done) | (go_simp; rfl)); intro w31 hw; have hg : wc.grownBy w31 (some go28) := (by rw [hw]; exact HP30.2); have hp_ : Kd.R k38 38 w31 w.heap.size (fun _ => True) (.slice (some ⟨go28, 0, none⟩) x7_1.length co29) y216 := (by rw [hw, Ny216.out]; exact HP30.1); clear HP30; have n0_ := Aside0.mk (hp_); have n1_ := Aside0.mk ((by rw [hw]; exact below_set (HB.out) GB28.out : Below w.heap.size w w31)); clear HO_7; clear HB; have HO_7 := n0_; have HB := n1_; clear n0_ n1_; clear hg hw hp_))
                repeat (go_quiet (fail); try go_wp2_with (first | ((with_reducible refine gate_store (t := 3) (p := 74) rfl ?_); (try (rw [drewN_self wc]; generalize hq_ : World.drewN wc _ = wc; have n0_ := Aside0.mk (Kd.R_at hq_ HO_7.out); have n1_ := Aside0.mk (below_at hq_ HB.out); clear hq_ HO_7 HB; have HO_7 := n0_; have HB := n1_; clear n0_ n1_; (try (have HX30 := Aside0.mk (show Kd.R k38 38 wc w.heap.size (fun _ => True) (.slice (some ⟨go28, 0, none⟩) x7_1.length co29) x7_1 from (by (with_reducible repeat (first | apply Kd.R_alloc | apply Kd.R_drewN | apply Kd.R_drew)); exact HO_7.out)))); (try (obtain ⟨ce30, hcl30, hM30, hcc30, hfr30⟩ := Kd.R_elem HX30.out z38 ((ji25) : Int) (of_decide_eq_true (by with_reducible assumption)) (by have h_ : ((ji25) : Int) < ((x7_1.length : Int) : Int) := of_decide_eq_true (by with_reducible assumption); first | exact h_ | (have e_ := (Kd.R_reads' HO_7.out).1; omega) | simpa using h_))); (try (obtain rfl := k38_openM hM30)); (try (have HP30 := Kd.R_seg HX30.out ((ji25) : Int) (of_decide_eq_true (by with_reducible assumption)) (by have h_ : ((ji25) : Int) < ((x7_1.length : Int) : Int) := of_decide_eq_true (by with_reducible assumption); first | exact h_ | (have e_ := (Kd.R_reads' HO_7.out).1; omega) | simpa using h_) (seg := [.int .i64 (wrap64 (((rd_T38 x7_1 (ji25)).f1) + 1))]) (j := 1) hcl30 hcc30 (show 2 ≤ 3 from by decide) (x' := (⟨(rd_T38 x7_1 (ji25)).f0, wrap64 (((rd_T38 x7_1 (ji25)).f1) + 1), (rd_T38 x7_1 (ji25)).f2⟩ : S38)) (k38_mkM _ _ _ (⟨(rd_T38 x7_1 (ji25)).f0, wrap64 (((rd_T38 x7_1 (ji25)).f1) + 1), (rd_T38 x7_1 (ji25)).f2⟩ : S38) ) (fun _ hk => hk))); (try (have hx30_1 := hcc30 1 _ rfl)); (try (try simp only [show (k38).sz = 3 from rfl, Nat.mul_one, Nat.add_zero] at hx30_1)); (try (have hf30_1 := hfr30 1)); (try (try simp only [show (k38).sz = 3 from rfl, Nat.mul_one, Nat.add_zero] at hf30_1)); (try (clear hcl30 hcc30 hfr30 hM30)))); refine store_event (t := 3) (p := 74) (v := ?vo_w31) (w1 := (wc.setCell ⟨go28, ((ji25) : Int).toNat * 3 + 1, none⟩ (.int .i64 (wrap64 (((rd_T38 x7_1 (ji25)).f1) + 1))))) ?hg ?ho ?hn ?hr ?_; (case ho => rfl); (case hg => rfl); (case hn => rfl); (case hr => first | (go_simp; done) | (go_simp; rfl)); intro w31 hw; have hg : wc.grownBy w31 (some go28) := (by rw [hw]; exact HP30.2); have hp_ : Kd.R k38 38 w31 w.heap.size (fun _ => True) (.slice (some ⟨go28, 0, none⟩) x7_1.length co29) y216 := (by rw [hw, Ny216.out]; exact HP30.1); clear HP30; have n0_ := Aside0.mk (hp_); have n1_ := Aside0.mk ((by rw [hw]; exact below_set (HB.out) GB28.out : Below w.heap.size w w31)); clear HO_7; clear HB; have HO_7 := n0_; have HB := n1_; clear n0_ n1_; clear hg hw hp_)))
                go_roundg kj7
                case measure => have := HK1.out; have := HJ7.out; omega
                case rel => exact ⟨(y216), (wrap64 (x8_1 + 1)), (by first | rfl | (simp; done) | (simp [*]; done)), H', ⟨by have := HK1.out; have := HJ7.out; omega⟩, ⟨by (with_reducible repeat (first | apply Kd.R_alloc | apply Kd.R_drewN | apply Kd.R_drew)); exact HO_7.out⟩, ⟨by repeat with_reducible first | exact HB.out | apply below_alloc | apply pw_below_drewN | apply below_drew1⟩⟩
              · rw [if_neg c27] at H
                exact absurd H (by simp)
            · rw [if_neg c26] at H
              exact absurd H (by simp)
          · replace c24 := Bool.eq_false_iff.mpr c24
            subst c24
            have H1 : (if 0 ≤ x8_1 then (if x8_1 < (l0.length : Int) then (if (rd l0 x8_1) ≥ 0 then (if x7_1.length < 5864062014805 then (ferruleref9_Range.l0 kj7 l0 a1 a2 (x7_1 ++ [(⟨x8_1, 1, rd l0 x8_1⟩ : S38)]) (wrap64 (x8_1 + 1))) else (none)) else (if x7_1.length < 5864062014805 then (ferruleref9_Range.l0 kj7 l0 a1 a2 (x7_1 ++ [(⟨x8_1, 1, (-1)⟩ : S38)]) (wrap64 (x8_1 + 1))) else (none))) else (none)) else (none)) = some r := by rw [if_neg (show ¬ (false = true) by decide)] at H; exact H
            clear H
            have H := H1
            clear H1
            by_cases c32 : 0 ≤ x8_1
            · rw [if_pos c32] at H
              have c32b0 : decide (0 ≤ x8_1) = true := decide_eq_true c32
              clear c32
              by_cases c33 : x8_1 < (l0.length : Int)
              · rw [if_pos c33] at H
                have c33b0 : decide (x8_1 < (l0.length : Int)) = true := decide_eq_true c33
                clear c33
                by_cases c34 : (rd l0 x8_1) ≥ 0
                · rw [if_pos c34] at H
                  have c34b0 : decide (0 ≤ (rd l0 x8_1)) = true := decide_eq_true c34
                  clear c34
                  by_cases c35 : x7_1.length < 5864062014805
                  · rw [if_pos c35] at H
                    have LMc35 := Aside0.mk c35
                    clear c35
                    obtain ⟨y220, hy220⟩ : ∃ y_ : List (S38), y_ = (x7_1 ++ [(⟨x8_1, 1, rd l0 x8_1⟩ : S38)]) := ⟨_, rfl⟩
                    replace H : (ferruleref9_Range.l0 kj7 l0 a1 a2 y220 (wrap64 (x8_1 + 1))) = some r := by first | (rw [hy220]; with_reducible exact H) | (have H2_ := (Option.bind_some _ _).symm.trans H; rw [hy220]; with_reducible exact H2_) | (have H2_ := (Option.bind_some _ _).symm.trans H; with_reducible exact H2_) | with_reducible exact H | (rw [hy220]; exact H) | exact H
                    have Ny220 := Aside0.mk hy220
                    clear hy220
                    have H' := Aside0.mk H
                    clear H
                    go_upto_region 10 with (first | ((with_reducible refine gate_dst (N := 9) rfl ?_); refine box_event ?hg (N := 9) ?hd (cs := #[.int .i64 0, .int .i64 0, .int .i64 0]) (t := 38) ?hr ?_; (case hd => rfl); (case hg => rfl); (case hr => first | (go_simp; done) | (go_simp; rfl)); intro gb217 hg w36 hbox hb; have n0_ := Aside0.mk (Kd.R_below (Kd.R_elderB (by (with_reducible repeat (first | apply Kd.R_alloc | apply Kd.R_drewN | apply Kd.R_drew)); exact HO_7.out) gb217 (Nat.le_of_eq hg.symm)) hb); have n1_ := Aside0.mk (below_step (by repeat with_reducible first | exact HB.out | apply below_alloc | apply pw_below_drewN | apply below_drew1) hb); have n2_ := Aside0.mk (hbox); have n3_ := Aside0.mk ((by rw [hg]; exact (below_size (by repeat with_reducible first | exact HB.out | apply below_alloc | apply pw_below_drewN | apply below_drew1)) : w.heap.size ≤ gb217)); have n4_ := Aside0.mk ((by rw [hg]; exact (below_size (by repeat with_reducible first | exact HB.out | apply below_alloc | apply pw_below_drewN | apply below_drew1)) : w.heap.size ≤ gb217)); clear HO_7; clear HB; have HO_7 := n0_; have HB := n1_; have BK217 := n2_; have GW217 := n3_; have GE217 := n4_; clear n0_ n1_ n2_ n3_ n4_; clear hb hbox hg; have hcz37_0 : w36.cell? ⟨gb217, 0, none⟩ = some (.int .i64 0) := (blk_cell BK217.out 0).trans rfl; have hcz37_1 : w36.cell? ⟨gb217, 1, none⟩ = some (.int .i64 0) := (blk_cell BK217.out 1).trans rfl; have hcz37_2 : w36.cell? ⟨gb217, 2, none⟩ = some (.int .i64 0) := (blk_cell BK217.out 2).trans rfl; have hfz37_0 := blk_frozen BK217.out 0; have hfz37_1 := blk_frozen BK217.out 1; have hfz37_2 := blk_frozen BK217.out 2; have p218 : 0 ≤ (x8_1 : Int) := of_decide_eq_true (by with_reducible assumption); have q218 : x8_1 < (l0.length : Int) := of_decide_eq_true (by with_reducible assumption); obtain ⟨ad218, e218, hx218_0⟩ := Kd.at_int HR0.out x8_1 p218 q218; cases e218; have hn218_0 : ad218.block ≠ gb217 := Nat.ne_of_lt (Nat.lt_of_lt_of_le (by have := World.block_lt_of_cell? _ _ hx218_0; first | rwa [add_block] at this | exact this) GW217.out); have hn218_1 : ad218.block ≠ gb217 := Nat.ne_of_lt (Nat.lt_of_lt_of_le (by have := World.block_lt_of_cell? _ _ hx218_0; first | rwa [add_block] at this | exact this) GW217.out); have hn218_2 : ad218.block ≠ gb217 := Nat.ne_of_lt (Nat.lt_of_lt_of_le (by have := World.block_lt_of_cell? _ _ hx218_0; first | rwa [add_block] at this | exact this) GW217.out); replace hx218_0 := (HB.out.cell (World.block_lt_of_cell? w _ hx218_0)).trans hx218_0; replace hx218_0 := (cell_far (p := ⟨gb217, 0, none⟩) (by first | (rw [add_block]; exact hn218_0) | exact hn218_0) (.int .i64 x8_1)).trans hx218_0; replace hx218_0 := (cell_far (p := ⟨gb217, 1, none⟩) (by first | (rw [add_block]; exact hn218_1) | exact hn218_1) (.int .i64 1)).trans hx218_0; replace hx218_0 := (cell_far (p := ⟨gb217, 2, none⟩) (by first | (rw [add_block]; exact hn218_2) | exact hn218_2) (.int .i64 (-1))).trans hx218_0; (try have hy218_0 := fun (n_ : Nat) => (show (((((w36.drewN n_).setCell ⟨gb217, 0, none⟩ (.int .i64 x8_1)).setCell ⟨gb217, 1, none⟩ (.int .i64 1)).setCell ⟨gb217, 2, none⟩ (.int .i64 (-1)))).cell? _ = some _ from hx218_0)); clear hn218_0; clear hn218_1; clear hn218_2; replace p218 := eq_true p218; replace q218 := eq_true q218; have p219 : 0 ≤ (x8_1 : Int) := of_decide_eq_true (by with_reducible assumption); have q219 : x8_1 < (l0.length : Int) := of_decide_eq_true (by with_reducible assumption); obtain ⟨ad219, e219, hx219_0⟩ := Kd.at_int HR0.out x8_1 p219 q219; obtain rfl : ad218 = ad219 := (by injection e219); have hn219_0 : ad218.block ≠ gb217 := Nat.ne_of_lt (Nat.lt_of_lt_of_le (by have := World.block_lt_of_cell? _ _ hx219_0; first | rwa [add_block] at this | exact this) GW217.out); have hn219_1 : ad218.block ≠ gb217 := Nat.ne_of_lt (Nat.lt_of_lt_of_le (by have := World.block_lt_of_cell? _ _ hx219_0; first | rwa [add_block] at this | exact this) GW217.out); have hn219_2 : ad218.block ≠ gb217 := Nat.ne_of_lt (Nat.lt_of_lt_of_le (by have := World.block_lt_of_cell? _ _ hx219_0; first | rwa [add_block] at this | exact this) GW217.out); replace hx219_0 := (HB.out.cell (World.block_lt_of_cell? w _ hx219_0)).trans hx219_0; replace hx219_0 := (cell_far (p := ⟨gb217, 0, none⟩) (by first | (rw [add_block]; exact hn219_0) | exact hn219_0) (.int .i64 x8_1)).trans hx219_0; replace hx219_0 := (cell_far (p := ⟨gb217, 1, none⟩) (by first | (rw [add_block]; exact hn219_1) | exact hn219_1) (.int .i64 1)).trans hx219_0; replace hx219_0 := (cell_far (p := ⟨gb217, 2, none⟩) (by first | (rw [add_block]; exact hn219_2) | exact hn219_2) (.int .i64 (-1))).trans hx219_0; (try have hy219_0 := fun (n_ : Nat) => (show (((((w36.drewN n_).setCell ⟨gb217, 0, none⟩ (.int .i64 x8_1)).setCell ⟨gb217, 1, none⟩ (.int .i64 1)).setCell ⟨gb217, 2, none⟩ (.int .i64 (-1)))).cell? _ = some _ from hx219_0)); clear hn219_0; clear hn219_1; clear hn219_2; replace p219 := eq_true p219; replace q219 := eq_true q219))
                    generalize hW_ : World.setCell _ _ _ = wl217
                    have n0_ : Aside0 (wl217.heap[gb217]? = some (.cells #[.int .i64 x8_1, .int .i64 1, .int .i64 (rd l0 x8_1)] 38 (0, 0))) := ⟨by rw [← hW_]; exact (by (with_reducible repeat (first | refine blk_drewN ?_ _ | refine blk_drew ?_ | refine blk_alloc ?_ _)); refine blk_put (cs := #[.int .i64 x8_1, .int .i64 1, .int .i64 (-1)]) ?_ 2 _ rfl; (with_reducible repeat (first | refine blk_drewN ?_ _ | refine blk_drew ?_ | refine blk_alloc ?_ _)); refine blk_put (cs := #[.int .i64 x8_1, .int .i64 1, .int .i64 0]) ?_ 2 _ rfl; (with_reducible repeat (first | refine blk_drewN ?_ _ | refine blk_drew ?_ | refine blk_alloc ?_ _)); refine blk_put (cs := #[.int .i64 x8_1, .int .i64 0, .int .i64 0]) ?_ 1 _ rfl; (with_reducible repeat (first | refine blk_drewN ?_ _ | refine blk_drew ?_ | refine blk_alloc ?_ _)); refine blk_put (cs := #[.int .i64 0, .int .i64 0, .int .i64 0]) ?_ 0 _ rfl; (with_reducible repeat (first | refine blk_drewN ?_ _ | refine blk_drew ?_ | refine blk_alloc ?_ _)); exact BK217.out)⟩
                    have n1_ : Aside0 (Kd.R k38 38 wl217 w.heap.size (fun k_ => k_ ≠ gb217) u7 x7_1) := ⟨by rw [← hW_]; exact (by (with_reducible repeat (first | apply Kd.R_alloc | apply Kd.R_drewN | apply Kd.R_drew)); exact Kd.R_mono (Kd.R_far (p := ⟨gb217, 2, none⟩) (Kd.R_far (p := ⟨gb217, 2, none⟩) (Kd.R_far (p := ⟨gb217, 1, none⟩) (Kd.R_far (p := ⟨gb217, 0, none⟩) (Kd.R_mono HO_7.out (fun k_ hk => (⟨hk, hk.2⟩ : _ ∧ k_ ≠ gb217))) (fun _ hk => hk.2) (.int .i64 x8_1)) (fun _ hk => hk.2) (.int .i64 1)) (fun _ hk => hk.2) (.int .i64 (-1))) (fun _ hk => hk.2) (.int .i64 (rd l0 x8_1))) (fun _ hk => hk.1.2))⟩
                    have n2_ : Aside0 (Below w.heap.size w wl217) := ⟨by rw [← hW_]; exact (by repeat (first | (with_reducible first | exact HB.out | apply below_alloc | apply pw_below_drewN | apply below_drew1 | refine below_set ?_ GE217.out) | exact HB.out))⟩
                    clear BK217 HO_7 HB hW_
                    have BK217 := n0_
                    have HO_7 := n1_
                    have HB := n2_
                    clear n0_ n1_ n2_
                    have hczl_0 : wl217.cell? ⟨gb217, 0, none⟩ = some (.int .i64 x8_1) := (blk_cell BK217.out 0).trans rfl
                    have hczl_1 : wl217.cell? ⟨gb217, 1, none⟩ = some (.int .i64 1) := (blk_cell BK217.out 1).trans rfl
                    have hczl_2 : wl217.cell? ⟨gb217, 2, none⟩ = some (.int .i64 (rd l0 x8_1)) := (blk_cell BK217.out 2).trans rfl
                    go_wp2_with (first | ((with_reducible refine gate_builtin (b := .append) (xs := #[.tmp 87, .tmp 89]) rfl ?_); at_builtin; refine Kd.R_append k38 (w0 := w) w.heap.size rfl (.tmp 87) (.tmp 89) 23 38 (.agg #[(.int .i64 0), (.int .i64 0), (.int .i64 0)]) 24 rfl Try.underlying23 info38 rfl (by decide) (by omega) u7 x7_1 (⟨x8_1, 1, rd l0 x8_1⟩ : S38) [.int .i64 x8_1, .int .i64 1, .int .i64 (rd l0 x8_1)] (fun k_ => k_ ≠ gb217) (fun _ => False) rfl (by first | (go_simp; done) | (go_simp; rfl)) ?aP (fun _ hk => hk.elim) ?aF ?aO ?aB ?aS ?aL ?_; (case aP => exact k38_mkM _ _ _ (⟨x8_1, 1, rd l0 x8_1⟩ : S38)); (case aB => exact (by repeat (first | (with_reducible first | exact HB.out | apply below_alloc | apply pw_below_drewN | apply below_drew1 | refine below_set ?_ GE217.out) | exact HB.out))); (case aF => exact (fun k_ hk => Kd.freshB (g := gb217) (o := .cells #[.int .i64 x8_1, .int .i64 1, .int .i64 (rd l0 x8_1)] 38 (0, 0)) BK217.out k_ hk)); (case aO => exact (by (with_reducible repeat (first | apply Kd.R_alloc | apply Kd.R_drewN | apply Kd.R_drew)); exact HO_7.out)); (case aS => exact (below_size (by repeat (first | (with_reducible first | exact HB.out | apply below_alloc | apply pw_below_drewN | apply below_drew1 | refine below_set ?_ GE217.out) | exact HB.out)))); (case aL => have := LMc35.out; omega); intro v221 w38 ho hb hg hat; rw [← Ny220.out] at ho; have n0_ := Aside0.mk (blk_grown (g := gb217) (o := .cells #[.int .i64 x8_1, .int .i64 1, .int .i64 (rd l0 x8_1)] 38 (0, 0)) BK217.out hg (Kd.R_away HO_7.out (fun _ hk => hk))); have n1_ := Aside0.mk (hb); have n2_ := Aside0.mk (ho); clear BK217; clear HB; clear HO_7; have BK217 := n0_; have HB := n1_; have HO222 := n2_; clear n0_ n1_ n2_; clear ho hb hg hat))
                    repeat (go_quiet (first | ((with_reducible refine gate_builtin (b := .append) (xs := #[.tmp 87, .tmp 89]) rfl ?_); at_builtin; refine Kd.R_append k38 (w0 := w) w.heap.size rfl (.tmp 87) (.tmp 89) 23 38 (.agg #[(.int .i64 0), (.int .i64 0), (.int .i64 0)]) 24 rfl Try.underlying23 info38 rfl (by decide) (by omega) u7 x7_1 (⟨x8_1, 1, rd l0 x8_1⟩ : S38) [.int .i64 x8_1, .int .i64 1, .int .i64 (rd l0 x8_1)] (fun k_ => k_ ≠ gb217) (fun _ => False) rfl (by first | (go_simp; done) | (go_simp; rfl)) ?aP (fun _ hk => hk.elim) ?aF ?aO ?aB ?aS ?aL ?_; (case aP => exact k38_mkM _ _ _ (⟨x8_1, 1, rd l0 x8_1⟩ : S38)); (case aB => exact (by repeat (first | (with_reducible first | exact HB.out | apply below_alloc | apply pw_below_drewN | apply below_drew1 | refine below_set ?_ GE217.out) | exact HB.out))); (case aF => exact (fun k_ hk => Kd.freshB (g := gb217) (o := .cells #[.int .i64 x8_1, .int .i64 1, .int .i64 (rd l0 x8_1)] 38 (0, 0)) BK217.out k_ hk)); (case aO => exact (by (with_reducible repeat (first | apply Kd.R_alloc | apply Kd.R_drewN | apply Kd.R_drew)); exact HO_7.out)); (case aS => exact (below_size (by repeat (first | (with_reducible first | exact HB.out | apply below_alloc | apply pw_below_drewN | apply below_drew1 | refine below_set ?_ GE217.out) | exact HB.out)))); (case aL => have := LMc35.out; omega); intro v221 w38 ho hb hg hat; rw [← Ny220.out] at ho; have n0_ := Aside0.mk (blk_grown (g := gb217) (o := .cells #[.int .i64 x8_1, .int .i64 1, .int .i64 (rd l0 x8_1)] 38 (0, 0)) BK217.out hg (Kd.R_away HO_7.out (fun _ hk => hk))); have n1_ := Aside0.mk (hb); have n2_ := Aside0.mk (ho); clear BK217; clear HB; clear HO_7; have BK217 := n0_; have HB := n1_; have HO222 := n2_; clear n0_ n1_ n2_; clear ho hb hg hat)))
                    go_roundg kj7
                    case measure => have := HK1.out; have := HJ7.out; omega
                    case rel => exact ⟨(y220), (wrap64 (x8_1 + 1)), (by first | rfl | (simp; done) | (simp [*]; done)), H', ⟨by have := HK1.out; have := HJ7.out; omega⟩, ⟨by (with_reducible repeat (first | apply Kd.R_alloc | apply Kd.R_drewN | apply Kd.R_drew)); exact Kd.R_mono HO222.out (fun _ hk => trivial)⟩, ⟨by repeat (first | (with_reducible first | exact HB.out | apply below_alloc | apply pw_below_drewN | apply below_drew1 | refine below_set ?_ GE217.out) | exact HB.out)⟩⟩
                  · rw [if_neg c35] at H
                    exact absurd H (by simp)
                · rw [if_neg c34] at H
                  have c34b0 : decide (0 ≤ (rd l0 x8_1)) = false := decide_eq_false c34
                  clear c34
                  by_cases c39 : x7_1.length < 5864062014805
                  · rw [if_pos c39] at H
                    have LMc39 := Aside0.mk c39
                    clear c39
                    obtain ⟨y223, hy223⟩ : ∃ y_ : List (S38), y_ = (x7_1 ++ [(⟨x8_1, 1, (-1)⟩ : S38)]) := ⟨_, rfl⟩
                    replace H : (ferruleref9_Range.l0 kj7 l0 a1 a2 y223 (wrap64 (x8_1 + 1))) = some r := by first | (rw [hy223]; with_reducible exact H) | (have H2_ := (Option.bind_some _ _).symm.trans H; rw [hy223]; with_reducible exact H2_) | (have H2_ := (Option.bind_some _ _).symm.trans H; with_reducible exact H2_) | with_reducible exact H | (rw [hy223]; exact H) | exact H
                    have Ny223 := Aside0.mk hy223
                    clear hy223
                    have H' := Aside0.mk H
                    clear H
                    go_wp2_with (first | ((with_reducible refine gate_dst (N := 9) rfl ?_); refine box_event ?hg (N := 9) ?hd (cs := #[.int .i64 0, .int .i64 0, .int .i64 0]) (t := 38) ?hr ?_; (case hd => rfl); (case hg => rfl); (case hr => first | (go_simp; done) | (go_simp; rfl)); intro gb217 hg w40 hbox hb; have n0_ := Aside0.mk (Kd.R_below (Kd.R_elderB (by (with_reducible repeat (first | apply Kd.R_alloc | apply Kd.R_drewN | apply Kd.R_drew)); exact HO_7.out) gb217 (Nat.le_of_eq hg.symm)) hb); have n1_ := Aside0.mk (below_step (by repeat with_reducible first | exact HB.out | apply below_alloc | apply pw_below_drewN | apply below_drew1) hb); have n2_ := Aside0.mk (hbox); have n3_ := Aside0.mk ((by rw [hg]; exact (below_size (by repeat with_reducible first | exact HB.out | apply below_alloc | apply pw_below_drewN | apply below_drew1)) : w.heap.size ≤ gb217)); have n4_ := Aside0.mk ((by rw [hg]; exact (below_size (by repeat with_reducible first | exact HB.out | apply below_alloc | apply pw_below_drewN | apply below_drew1)) : w.heap.size ≤ gb217)); clear HO_7; clear HB; have HO_7 := n0_; have HB := n1_; have BK217 := n2_; have GW217 := n3_; have GE217 := n4_; clear n0_ n1_ n2_ n3_ n4_; clear hb hbox hg; have hcz41_0 : w40.cell? ⟨gb217, 0, none⟩ = some (.int .i64 0) := (blk_cell BK217.out 0).trans rfl; have hcz41_1 : w40.cell? ⟨gb217, 1, none⟩ = some (.int .i64 0) := (blk_cell BK217.out 1).trans rfl; have hcz41_2 : w40.cell? ⟨gb217, 2, none⟩ = some (.int .i64 0) := (blk_cell BK217.out 2).trans rfl; have hfz41_0 := blk_frozen BK217.out 0; have hfz41_1 := blk_frozen BK217.out 1; have hfz41_2 := blk_frozen BK217.out 2; have p218 : 0 ≤ (x8_1 : Int) := of_decide_eq_true (by with_reducible assumption); have q218 : x8_1 < (l0.length : Int) := of_decide_eq_true (by with_reducible assumption); obtain ⟨ad218, e218, hx218_0⟩ := Kd.at_int HR0.out x8_1 p218 q218; cases e218; have hn218_0 : ad218.block ≠ gb217 := Nat.ne_of_lt (Nat.lt_of_lt_of_le (by have := World.block_lt_of_cell? _ _ hx218_0; first | rwa [add_block] at this | exact this) GW217.out); have hn218_1 : ad218.block ≠ gb217 := Nat.ne_of_lt (Nat.lt_of_lt_of_le (by have := World.block_lt_of_cell? _ _ hx218_0; first | rwa [add_block] at this | exact this) GW217.out); have hn218_2 : ad218.block ≠ gb217 := Nat.ne_of_lt (Nat.lt_of_lt_of_le (by have := World.block_lt_of_cell? _ _ hx218_0; first | rwa [add_block] at this | exact this) GW217.out); replace hx218_0 := (HB.out.cell (World.block_lt_of_cell? w _ hx218_0)).trans hx218_0; replace hx218_0 := (cell_far (p := ⟨gb217, 0, none⟩) (by first | (rw [add_block]; exact hn218_0) | exact hn218_0) (.int .i64 x8_1)).trans hx218_0; replace hx218_0 := (cell_far (p := ⟨gb217, 1, none⟩) (by first | (rw [add_block]; exact hn218_1) | exact hn218_1) (.int .i64 1)).trans hx218_0; replace hx218_0 := (cell_far (p := ⟨gb217, 2, none⟩) (by first | (rw [add_block]; exact hn218_2) | exact hn218_2) (.int .i64 (-1))).trans hx218_0; (try have hy218_0 := fun (n_ : Nat) => (show (((((w40.drewN n_).setCell ⟨gb217, 0, none⟩ (.int .i64 x8_1)).setCell ⟨gb217, 1, none⟩ (.int .i64 1)).setCell ⟨gb217, 2, none⟩ (.int .i64 (-1)))).cell? _ = some _ from hx218_0)); clear hn218_0; clear hn218_1; clear hn218_2; replace p218 := eq_true p218; replace q218 := eq_true q218) | ((with_reducible refine gate_builtin (b := .append) (xs := #[.tmp 87, .tmp 89]) rfl ?_); at_builtin; refine Kd.R_append k38 (w0 := w) w.heap.size rfl (.tmp 87) (.tmp 89) 23 38 (.agg #[(.int .i64 0), (.int .i64 0), (.int .i64 0)]) 24 rfl Try.underlying23 info38 rfl (by decide) (by omega) u7 x7_1 (⟨x8_1, 1, (-1)⟩ : S38) [.int .i64 x8_1, .int .i64 1, .int .i64 (-1)] (fun k_ => k_ ≠ gb217) (fun _ => False) rfl (by first | (go_simp; done) | (go_simp; rfl)) ?aP (fun _ hk => hk.elim) ?aF ?aO ?aB ?aS ?aL ?_; (case aP => exact k38_mkM _ _ _ (⟨x8_1, 1, (-1)⟩ : S38)); (case aB => exact (by repeat (first | (with_reducible first | exact HB.out | apply below_alloc | apply pw_below_drewN | apply below_drew1 | refine below_set ?_ GE217.out) | exact HB.out))); (case aF => exact (fun k_ hk => Kd.freshB (g := gb217) (o := .cells #[.int .i64 x8_1, .int .i64 1, .int .i64 (-1)] 38 (0, 0)) (by (with_reducible repeat (first | refine blk_drewN ?_ _ | refine blk_drew ?_ | refine blk_alloc ?_ _)); refine blk_put (cs := #[.int .i64 x8_1, .int .i64 1, .int .i64 0]) ?_ 2 _ rfl; (with_reducible repeat (first | refine blk_drewN ?_ _ | refine blk_drew ?_ | refine blk_alloc ?_ _)); refine blk_put (cs := #[.int .i64 x8_1, .int .i64 0, .int .i64 0]) ?_ 1 _ rfl; (with_reducible repeat (first | refine blk_drewN ?_ _ | refine blk_drew ?_ | refine blk_alloc ?_ _)); refine blk_put (cs := #[.int .i64 0, .int .i64 0, .int .i64 0]) ?_ 0 _ rfl; (with_reducible repeat (first | refine blk_drewN ?_ _ | refine blk_drew ?_ | refine blk_alloc ?_ _)); exact BK217.out) k_ hk)); (case aO => exact (by (with_reducible repeat (first | apply Kd.R_alloc | apply Kd.R_drewN | apply Kd.R_drew)); exact Kd.R_mono (Kd.R_far (p := ⟨gb217, 2, none⟩) (Kd.R_far (p := ⟨gb217, 1, none⟩) (Kd.R_far (p := ⟨gb217, 0, none⟩) (Kd.R_mono HO_7.out (fun k_ hk => (⟨hk, hk.2⟩ : _ ∧ k_ ≠ gb217))) (fun _ hk => hk.2) (.int .i64 x8_1)) (fun _ hk => hk.2) (.int .i64 1)) (fun _ hk => hk.2) (.int .i64 (-1))) (fun _ hk => hk.1.2))); (case aS => exact (below_size (by repeat (first | (with_reducible first | exact HB.out | apply below_alloc | apply pw_below_drewN | apply below_drew1 | refine below_set ?_ GE217.out) | exact HB.out)))); (case aL => have := LMc39.out; omega); intro v224 w42 ho hb hg hat; rw [← Ny223.out] at ho; have n0_ := Aside0.mk (blk_grown (g := gb217) (o := .cells #[.int .i64 x8_1, .int .i64 1, .int .i64 (-1)] 38 (0, 0)) (by (with_reducible repeat (first | refine blk_drewN ?_ _ | refine blk_drew ?_ | refine blk_alloc ?_ _)); refine blk_put (cs := #[.int .i64 x8_1, .int .i64 1, .int .i64 0]) ?_ 2 _ rfl; (with_reducible repeat (first | refine blk_drewN ?_ _ | refine blk_drew ?_ | refine blk_alloc ?_ _)); refine blk_put (cs := #[.int .i64 x8_1, .int .i64 0, .int .i64 0]) ?_ 1 _ rfl; (with_reducible repeat (first | refine blk_drewN ?_ _ | refine blk_drew ?_ | refine blk_alloc ?_ _)); refine blk_put (cs := #[.int .i64 0, .int .i64 0, .int .i64 0]) ?_ 0 _ rfl; (with_reducible repeat (first | refine blk_drewN ?_ _ | refine blk_drew ?_ | refine blk_alloc ?_ _)); exact BK217.out) hg (Kd.R_away HO_7.out (fun _ hk => hk.2))); have n1_ := Aside0.mk (hb); have n2_ := Aside0.mk (ho); clear BK217; clear HB; clear HO_7; have BK217 := n0_; have HB := n1_; have HO225 := n2_; clear n0_ n1_ n2_; clear ho hb hg hat))
                    repeat (go_quiet (fail); try go_wp2_with (first | ((with_reducible refine gate_dst (N := 9) rfl ?_); refine box_event ?hg (N := 9) ?hd (cs := #[.int .i64 0, .int .i64 0, .int .i64 0]) (t := 38) ?hr ?_; (case hd => rfl); (case hg => rfl); (case hr => first | (go_simp; done) | (go_simp; rfl)); intro gb217 hg w40 hbox hb; have n0_ := Aside0.mk (Kd.R_below (Kd.R_elderB (by (with_reducible repeat (first | apply Kd.R_alloc | apply Kd.R_drewN | apply Kd.R_drew)); exact HO_7.out) gb217 (Nat.le_of_eq hg.symm)) hb); have n1_ := Aside0.mk (below_step (by repeat with_reducible first | exact HB.out | apply below_alloc | apply pw_below_drewN | apply below_drew1) hb); have n2_ := Aside0.mk (hbox); have n3_ := Aside0.mk ((by rw [hg]; exact (below_size (by repeat with_reducible first | exact HB.out | apply below_alloc | apply pw_below_drewN | apply below_drew1)) : w.heap.size ≤ gb217)); have n4_ := Aside0.mk ((by rw [hg]; exact (below_size (by repeat with_reducible first | exact HB.out | apply below_alloc | apply pw_below_drewN | apply below_drew1)) : w.heap.size ≤ gb217)); clear HO_7; clear HB; have HO_7 := n0_; have HB := n1_; have BK217 := n2_; have GW217 := n3_; have GE217 := n4_; clear n0_ n1_ n2_ n3_ n4_; clear hb hbox hg; have hcz41_0 : w40.cell? ⟨gb217, 0, none⟩ = some (.int .i64 0) := (blk_cell BK217.out 0).trans rfl; have hcz41_1 : w40.cell? ⟨gb217, 1, none⟩ = some (.int .i64 0) := (blk_cell BK217.out 1).trans rfl; have hcz41_2 : w40.cell? ⟨gb217, 2, none⟩ = some (.int .i64 0) := (blk_cell BK217.out 2).trans rfl; have hfz41_0 := blk_frozen BK217.out 0; have hfz41_1 := blk_frozen BK217.out 1; have hfz41_2 := blk_frozen BK217.out 2; have p218 : 0 ≤ (x8_1 : Int) := of_decide_eq_true (by with_reducible assumption); have q218 : x8_1 < (l0.length : Int) := of_decide_eq_true (by with_reducible assumption); obtain ⟨ad218, e218, hx218_0⟩ := Kd.at_int HR0.out x8_1 p218 q218; cases e218; have hn218_0 : ad218.block ≠ gb217 := Nat.ne_of_lt (Nat.lt_of_lt_of_le (by have := World.block_lt_of_cell? _ _ hx218_0; first | rwa [add_block] at this | exact this) GW217.out); have hn218_1 : ad218.block ≠ gb217 := Nat.ne_of_lt (Nat.lt_of_lt_of_le (by have := World.block_lt_of_cell? _ _ hx218_0; first | rwa [add_block] at this | exact this) GW217.out); have hn218_2 : ad218.block ≠ gb217 := Nat.ne_of_lt (Nat.lt_of_lt_of_le (by have := World.block_lt_of_cell? _ _ hx218_0; first | rwa [add_block] at this | exact this) GW217.out); replace hx218_0 := (HB.out.cell (World.block_lt_of_cell? w _ hx218_0)).trans hx218_0; replace hx218_0 := (cell_far (p := ⟨gb217, 0, none⟩) (by first | (rw [add_block]; exact hn218_0) | exact hn218_0) (.int .i64 x8_1)).trans hx218_0; replace hx218_0 := (cell_far (p := ⟨gb217, 1, none⟩) (by first | (rw [add_block]; exact hn218_1) | exact hn218_1) (.int .i64 1)).trans hx218_0; replace hx218_0 := (cell_far (p := ⟨gb217, 2, none⟩) (by first | (rw [add_block]; exact hn218_2) | exact hn218_2) (.int .i64 (-1))).trans hx218_0; (try have hy218_0 := fun (n_ : Nat) => (show (((((w40.drewN n_).setCell ⟨gb217, 0, none⟩ (.int .i64 x8_1)).setCell ⟨gb217, 1, none⟩ (.int .i64 1)).setCell ⟨gb217, 2, none⟩ (.int .i64 (-1)))).cell? _ = some _ from hx218_0)); clear hn218_0; clear hn218_1; clear hn218_2; replace p218 := eq_true p218; replace q218 := eq_true q218) | ((with_reducible refine gate_builtin (b := .append) (xs := #[.tmp 87, .tmp 89]) rfl ?_); at_builtin; refine Kd.R_append k38 (w0 := w) w.heap.size rfl (.tmp 87) (.tmp 89) 23 38 (.agg #[(.int .i64 0), (.int .i64 0), (.int .i64 0)]) 24 rfl Try.underlying23 info38 rfl (by decide) (by omega) u7 x7_1 (⟨x8_1, 1, (-1)⟩ : S38) [.int .i64 x8_1, .int .i64 1, .int .i64 (-1)] (fun k_ => k_ ≠ gb217) (fun _ => False) rfl (by first | (go_simp; done) | (go_simp; rfl)) ?aP (fun _ hk => hk.elim) ?aF ?aO ?aB ?aS ?aL ?_; (case aP => exact k38_mkM _ _ _ (⟨x8_1, 1, (-1)⟩ : S38)); (case aB => exact (by repeat (first | (with_reducible first | exact HB.out | apply below_alloc | apply pw_below_drewN | apply below_drew1 | refine below_set ?_ GE217.out) | exact HB.out))); (case aF => exact (fun k_ hk => Kd.freshB (g := gb217) (o := .cells #[.int .i64 x8_1, .int .i64 1, .int .i64 (-1)] 38 (0, 0)) (by (with_reducible repeat (first | refine blk_drewN ?_ _ | refine blk_drew ?_ | refine blk_alloc ?_ _)); refine blk_put (cs := #[.int .i64 x8_1, .int .i64 1, .int .i64 0]) ?_ 2 _ rfl; (with_reducible repeat (first | refine blk_drewN ?_ _ | refine blk_drew ?_ | refine blk_alloc ?_ _)); refine blk_put (cs := #[.int .i64 x8_1, .int .i64 0, .int .i64 0]) ?_ 1 _ rfl; (with_reducible repeat (first | refine blk_drewN ?_ _ | refine blk_drew ?_ | refine blk_alloc ?_ _)); refine blk_put (cs := #[.int .i64 0, .int .i64 0, .int .i64 0]) ?_ 0 _ rfl; (with_reducible repeat (first | refine blk_drewN ?_ _ | refine blk_drew ?_ | refine blk_alloc ?_ _)); exact BK217.out) k_ hk)); (case aO => exact (by (with_reducible repeat (first | apply Kd.R_alloc | apply Kd.R_drewN | apply Kd.R_drew)); exact Kd.R_mono (Kd.R_far (p := ⟨gb217, 2, none⟩) (Kd.R_far (p := ⟨gb217, 1, none⟩) (Kd.R_far (p := ⟨gb217, 0, none⟩) (Kd.R_mono HO_7.out (fun k_ hk => (⟨hk, hk.2⟩ : _ ∧ k_ ≠ gb217))) (fun _ hk => hk.2) (.int .i64 x8_1)) (fun _ hk => hk.2) (.int .i64 1)) (fun _ hk => hk.2) (.int .i64 (-1))) (fun _ hk => hk.1.2))); (case aS => exact (below_size (by repeat (first | (with_reducible first | exact HB.out | apply below_alloc | apply pw_below_drewN | apply below_drew1 | refine below_set ?_ GE217.out) | exact HB.out)))); (case aL => have := LMc39.out; omega); intro v224 w42 ho hb hg hat; rw [← Ny223.out] at ho; have n0_ := Aside0.mk (blk_grown (g := gb217) (o := .cells #[.int .i64 x8_1, .int .i64 1, .int .i64 (-1)] 38 (0, 0)) (by (with_reducible repeat (first | refine blk_drewN ?_ _ | refine blk_drew ?_ | refine blk_alloc ?_ _)); refine blk_put (cs := #[.int .i64 x8_1, .int .i64 1, .int .i64 0]) ?_ 2 _ rfl; (with_reducible repeat (first | refine blk_drewN ?_ _ | refine blk_drew ?_ | refine blk_alloc ?_ _)); refine blk_put (cs := #[.int .i64 x8_1, .int .i64 0, .int .i64 0]) ?_ 1 _ rfl; (with_reducible repeat (first | refine blk_drewN ?_ _ | refine blk_drew ?_ | refine blk_alloc ?_ _)); refine blk_put (cs := #[.int .i64 0, .int .i64 0, .int .i64 0]) ?_ 0 _ rfl; (with_reducible repeat (first | refine blk_drewN ?_ _ | refine blk_drew ?_ | refine blk_alloc ?_ _)); exact BK217.out) hg (Kd.R_away HO_7.out (fun _ hk => hk.2))); have n1_ := Aside0.mk (hb); have n2_ := Aside0.mk (ho); clear BK217; clear HB; clear HO_7; have BK217 := n0_; have HB := n1_; have HO225 := n2_; clear n0_ n1_ n2_; clear ho hb hg hat)))
                    go_roundg kj7
                    case measure => have := HK1.out; have := HJ7.out; omega
                    case rel => exact ⟨(y223), (wrap64 (x8_1 + 1)), (by first | rfl | (simp; done) | (simp [*]; done)), H', ⟨by have := HK1.out; have := HJ7.out; omega⟩, ⟨by (with_reducible repeat (first | apply Kd.R_alloc | apply Kd.R_drewN | apply Kd.R_drew)); exact Kd.R_mono HO225.out (fun _ hk => trivial)⟩, ⟨by repeat (first | (with_reducible first | exact HB.out | apply below_alloc | apply pw_below_drewN | apply below_drew1 | refine below_set ?_ GE217.out) | exact HB.out)⟩⟩
                  · rw [if_neg c39] at H
                    exact absurd H (by simp)
              · rw [if_neg c33] at H
                exact absurd H (by simp)
            · rw [if_neg c32] at H
              exact absurd H (by simp)
    · rw [if_neg c7] at H
      have c7b0 : decide (x8_1 < (wrap64 (a1 + a2))) = false := decide_eq_false c7
      clear c7
      obtain rfl := Option.some.inj H
      go_wp2
      repeat (go_quiet (fail); try go_wp2)
      go_ret
      exact ⟨_, by first | rfl | (simp [errW_none, errW_some] <;> rfl) | (simp [*, errW_none, errW_some] <;> rfl), by (with_reducible repeat (first | apply Kd.R_alloc | apply Kd.R_drewN | apply Kd.R_drew)); exact HO_7.out, by repeat with_reducible first | exact HB.out | apply below_alloc | apply pw_below_drewN | apply below_drew1⟩
 }
 {
 rw [if_neg c4] at H
 exact absurd H (by simp)
 }

/-! ### ferruleref13_Holes: function 23 -/
def ferruleref13_Holes.l0 : Nat → List (S38) → List (S38) → Int → Option ((List (S38)))
  | 0, _, _, _ => none
  | k + 1, x8, x9, x10 => if x10 < (x8.length : Int) then (if 0 ≤ x10 then (if ((rd_T38 x8 x10).f2) < 0 then (if x9.length < 5864062014805 then (ferruleref13_Holes.l0 k x8 (x9 ++ [(⟨(rd_T38 x8 x10).f0, (rd_T38 x8 x10).f1, (rd_T38 x8 x10).f2⟩ : S38)]) (wrap64 (x10 + 1))) else (none)) else (ferruleref13_Holes.l0 k x8 x9 (wrap64 (x10 + 1)))) else (none)) else (some x9)
def ferruleref13_Holes.f (k : Nat) (l0 : List (S39)) (a1 : Int) (a2 : Int) : Option ((List (S38))) := (ferruleref9_Table.f k l0 512).bind fun t226 => ((ferruleref9_Range.f k t226 a1 a2).bind fun t229 => (if 0 ≤ 11728124029610 then (ferruleref13_Holes.l0 k t229 (List.replicate 0 z38) 0) else (none)))
theorem ferruleref13_Holes.mono_l : ∀ k, (∀ y0 y1 y2, LeO (ferruleref13_Holes.l0 k y0 y1 y2) (ferruleref13_Holes.l0 (k + 1) y0 y1 y2))
  | 0 => fun _ _ _ r h => by simp [ferruleref13_Holes.l0] at h
  | k + 1 => by
    have ih0 := ferruleref13_Holes.mono_l k
    · intro y0 y1 y2
      unfold ferruleref13_Holes.l0
      repeat' first
      | (with_reducible exact ih0 _ _ _)
      | (with_reducible exact ferruleref9_Range.mono _ _ _ _)
      | (with_reducible exact ferruleref9_Table.mono _ _ _)
      | (with_reducible exact LeO.refl _)
      | (with_reducible exact LeO.none _)
      | (with_reducible refine LeO.ite ?_ ?_)
      | (with_reducible refine LeO.bind ?_ (fun _ => ?_))
      | exact ih0 _ _ _
      | exact ferruleref9_Range.mono _ _ _ _
      | exact ferruleref9_Table.mono _ _ _
      | exact LeO.none _
      | refine LeO.ite ?_ ?_
      | refine LeO.bind ?_ (fun _ => ?_)
theorem ferruleref13_Holes.mono : ∀ a0 a1 a2 k, LeO (ferruleref13_Holes.f k a0 a1 a2) (ferruleref13_Holes.f (k + 1) a0 a1 a2) := by
  intro a0 a1 a2 k
  have ih0 := ferruleref13_Holes.mono_l k
  unfold ferruleref13_Holes.f
  repeat' first
      | (with_reducible exact ih0 _ _ _)
      | (with_reducible exact ferruleref9_Range.mono _ _ _ _)
      | (with_reducible exact ferruleref9_Table.mono _ _ _)
      | (with_reducible exact LeO.refl _)
      | (with_reducible exact LeO.none _)
      | (with_reducible refine LeO.ite ?_ ?_)
      | (with_reducible refine LeO.bind ?_ (fun _ => ?_))
      | exact ih0 _ _ _
      | exact ferruleref9_Range.mono _ _ _ _
      | exact ferruleref9_Table.mono _ _ _
      | exact LeO.none _
      | refine LeO.ite ?_ ?_
      | refine LeO.bind ?_ (fun _ => ?_)
set_option maxHeartbeats 8000000 in
set_option maxRecDepth 100000 in
theorem ferruleref13_Holes.calls (k : Nat) (A0 : Option Addr) (c0 : Nat) (l0 : List (S39)) (a1 : Int) (a2 : Int) (r : List (S38)) (w : World) (hr0 : Kd.C k39 w A0 l0.length l0) (hc0 : l0.length ≤ c0) (h : ferruleref13_Holes.f k l0 a1 a2 = some r) :
    Calls Try.prog 23 #[.slice A0 l0.length c0, .int .i64 a1, .int .i64 a2] w fun e w' => ∃ v0_ : Value, e = .returned (v0_) ∧ Kd.R k38 38 w' w.heap.size (fun _ => True) v0_ r ∧ Below w.heap.size w w' := by
  have hu38 := Try.underlying38
  have HR0 := Aside0.mk hr0
  have HC0 := Aside0.mk hc0
  clear hr0 hc0
  have HB := Aside0.mk (Below.refl w.heap.size w)
  have H : ((ferruleref9_Table.f k l0 512).bind fun t226 => ((ferruleref9_Range.f k t226 a1 a2).bind fun t229 => (if 0 ≤ 11728124029610 then (ferruleref13_Holes.l0 k t229 (List.replicate 0 z38) 0) else (none)))) = some r := h
  clear h
  replace H := Option.bind_eq_some_iff.mp H
  obtain ⟨t226, A40, H⟩ := H
  replace H : ((ferruleref9_Range.f k t226 a1 a2).bind fun t229 => (if 0 ≤ 11728124029610 then (ferruleref13_Holes.l0 k t229 (List.replicate 0 z38) 0) else (none))) = some r := H
  have A4 := Aside0.mk A40
  clear A40
  replace H := Option.bind_eq_some_iff.mp H
  obtain ⟨t229, A50, H⟩ := H
  replace H : (if 0 ≤ 11728124029610 then (ferruleref13_Holes.l0 k t229 (List.replicate 0 z38) 0) else (none)) = some r := H
  have A5 := Aside0.mk A50
  clear A50
  by_cases c6 : 0 ≤ 11728124029610
  · rw [if_pos c6] at H
    have c6b0 := eq_true c6
    have c6b1 : decide (0 ≤ 11728124029610) = true := decide_eq_true c6
    clear c6
    obtain ⟨y232, hy232⟩ : ∃ y_ : List (S38), y_ = (List.replicate 0 z38) := ⟨_, rfl⟩
    replace H : (ferruleref13_Holes.l0 k t229 y232 0) = some r := by first | (rw [hy232]; with_reducible exact H) | (have H2_ := (Option.bind_some _ _).symm.trans H; rw [hy232]; with_reducible exact H2_) | (have H2_ := (Option.bind_some _ _).symm.trans H; with_reducible exact H2_) | with_reducible exact H | (rw [hy232]; exact H) | exact H
    have Ny232 := Aside0.mk hy232
    clear hy232
    have H' := Aside0.mk H
    clear H
    go_enter Try.func23, Try.ntmps23
    go_wp2_with (first | ((with_reducible refine gate_callee (f := 35) rfl ?_); refine goesL_ (some 12) rfl rfl Try.func35 (by kernel_rfl) rfl #[.slice A0 l0.length c0, .int .i64 512] rfl (by (try simp only [List.map_toArray, List.map_cons, List.map_nil]); first | done | rfl | (simp only [List.length_drop, List.length_take]; rfl)) ?_; (with_reducible refine (ferruleref9_Table.calls k _ _ l0 512 t226 _ ?side1 ?side2 A4.out).mono ?_); (case side1 => repeat (first | exact HR0.out | (with_reducible refine Kd.C_alloc ?_ _) | (with_reducible refine Kd.C_drewN ?_ _) | (with_reducible refine Kd.C_drew ?_))); (case side2 => exact HC0.out); rintro e w7 ⟨v227, rfl, ho0, hb⟩; refine ⟨_, rfl, ?_⟩; have n0_ := Aside0.mk (Kd.R_lower ho0 (below_size (by repeat with_reducible first | exact HB.out | apply below_alloc | apply pw_below_drewN | apply below_drew1))); have n1_ := Aside0.mk (below_step (by repeat with_reducible first | exact HB.out | apply below_alloc | apply pw_below_drewN | apply below_drew1) hb); clear HB; have HO228 := n0_; have HB := n1_; clear n0_ n1_; (try clear hb); (try clear hb2); (try clear hk); (try clear hi); (try clear ho0); obtain ⟨Ao8, co8, eo8⟩ := Kd.R_slice HO228.out; subst eo8) | ((with_reducible refine gate_callee (f := 36) rfl ?_); refine goesL_ (some 16) rfl rfl Try.func36 (by kernel_rfl) rfl #[.slice Ao8 t226.length co8, .int .i64 a1, .int .i64 a2] rfl (by (try simp only [List.map_toArray, List.map_cons, List.map_nil]); first | done | rfl | (simp only [List.length_drop, List.length_take]; rfl)) ?_; (with_reducible refine (ferruleref9_Range.calls k _ _ t226 a1 a2 t229 _ ?side1 ?side2 A5.out).mono ?_); (case side1 => repeat (first | exact (Kd.R_reads' HO228.out).2.2 | (with_reducible refine Kd.C_alloc ?_ _) | (with_reducible refine Kd.C_drewN ?_ _) | (with_reducible refine Kd.C_drew ?_))); (case side2 => exact (Kd.R_reads' HO228.out).2.1); rintro e w9 ⟨v230, rfl, ho0, hb⟩; refine ⟨_, rfl, ?_⟩; have n0_ := Aside0.mk (Kd.R_below (by (with_reducible repeat (first | apply Kd.R_alloc | apply Kd.R_drewN | apply Kd.R_drew)); exact HO228.out) hb); have n1_ := Aside0.mk (Kd.R_lower ho0 (below_size (by repeat with_reducible first | exact HB.out | apply below_alloc | apply pw_below_drewN | apply below_drew1))); have n2_ := Aside0.mk (below_step (by repeat with_reducible first | exact HB.out | apply below_alloc | apply pw_below_drewN | apply below_drew1) hb); clear HO228; clear HB; have HO228 := n0_; have HO231 := n1_; have HB := n2_; clear n0_ n1_ n2_; (try clear hb); (try clear hb2); (try clear hk); (try clear hi); (try clear ho0)) | ((with_reducible refine gate_dst (N := 17) rfl ?_); refine Kd.R_make k38 _ 38 rfl (N := 17) rfl 23 _ _ rfl 0 rfl rfl Try.underlying23 (.agg #[(.int .i64 0), (.int .i64 0), (.int .i64 0)]) 24 info38 rfl (by decide) (by omega) z38 (ok := fun _ => True) (okp := fun _ => True) (k38_mkM _ _ _ z38 ) (fun _ hk => hk) trivial (by omega) (by omega) (Below.refl _ _) (Nat.le_refl _) ?_; intro v233 w10 ho11 hb hg_ hnew_; clear hg_ hnew_; (first | rw [← Ny232.out] at ho11 | (simp only [Int.reduceToNat] at ho11; rw [← Ny232.out] at ho11)); have n0_ := Aside0.mk (Kd.R_below (by (with_reducible repeat (first | apply Kd.R_alloc | apply Kd.R_drewN | apply Kd.R_drew)); exact HO228.out) hb); have n1_ := Aside0.mk (Kd.R_elder' (by (with_reducible repeat (first | apply Kd.R_alloc | apply Kd.R_drewN | apply Kd.R_drew)); exact HO231.out) (Kd.R_base ho11) hb); have n2_ := Aside0.mk (Kd.R_lower (Kd.R_new' ho11 (Kd.R_lt (by (with_reducible repeat (first | apply Kd.R_alloc | apply Kd.R_drewN | apply Kd.R_drew)); exact HO231.out))) (below_size (by repeat with_reducible first | exact HB.out | apply below_alloc | apply pw_below_drewN | apply below_drew1))); have n3_ := Aside0.mk (below_step (by repeat with_reducible first | exact HB.out | apply below_alloc | apply pw_below_drewN | apply below_drew1) hb); clear HO228; clear HO231; clear HB; have HO228 := n0_; have HO231 := n1_; have HO234 := n2_; have HB := n3_; clear n0_ n1_ n2_ n3_; clear hb ho11))
    go_loopg [9, 10] k (fun kq v9 v10 w' => ∃ (x9_1 : List (S38)) (x10_1 : Int), v10 = .int .i64 x10_1 ∧ Aside0 (ferruleref13_Holes.l0 kq t229 x9_1 x10_1 = some r) ∧ Aside0 (kq ≤ k) ∧ Aside0 (Kd.R k38 38 w' w.heap.size (fun k_ => some k_ ≠ (v9 : Value).ownBlock) v230 t229) ∧ Aside0 (Kd.R k38 38 w' w.heap.size (fun k_ => some k_ ≠ (v230 : Value).ownBlock) v9 x9_1) ∧ Aside0 (Below w.heap.size w w'))
    case atStart => exact ⟨(y232), (0), (by first | rfl | (simp; done) | (simp [*]; done)), H', ⟨Nat.le_refl _⟩, ⟨by (with_reducible repeat (first | apply Kd.R_alloc | apply Kd.R_drewN | apply Kd.R_drew)); exact Kd.R_mono HO231.out (fun _ hk => hk.2)⟩, ⟨by (with_reducible repeat (first | apply Kd.R_alloc | apply Kd.R_drewN | apply Kd.R_drew)); exact Kd.R_mono HO234.out (fun _ hk => hk.2)⟩, ⟨by repeat with_reducible first | exact HB.out | apply below_alloc | apply pw_below_drewN | apply below_drew1⟩⟩
    case round =>
      clear H'
      try clear c2
      try clear p2
      try clear c3
      try clear c6
      try clear c6b0
      try clear c6b1
      obtain ⟨x9_1, x10_1, rfl, HA, HK1, HO_8, HO_9, HB⟩ := hrel
      cases gk with
      | zero => exact absurd HA.out (by simp [ferruleref13_Holes.l0])
      | succ k1 =>
        have H := HA.out
        clear HA
        simp only [ferruleref13_Holes.l0] at H
        by_cases c12 : x10_1 < (t229.length : Int)
        · rw [if_pos c12] at H
          have c12b0 : decide (x10_1 < (t229.length : Int)) = true := decide_eq_true c12
          clear c12
          by_cases c13 : 0 ≤ x10_1
          · rw [if_pos c13] at H
            have c13b0 : decide (0 ≤ x10_1) = true := decide_eq_true c13
            clear c13
            by_cases c14 : ((rd_T38 t229 x10_1).f2) < 0
            · rw [if_pos c14] at H
              have c14b0 : decide (((rd_T38 t229 x10_1).f2) < 0) = true := decide_eq_true c14
              clear c14
              by_cases c15 : x9_1.length < 5864062014805
              · rw [if_pos c15] at H
                have LMc15 := Aside0.mk c15
                clear c15
                obtain ⟨y237, hy237⟩ : ∃ y_ : List (S38), y_ = (x9_1 ++ [(⟨(rd_T38 t229 x10_1).f0, (rd_T38 t229 x10_1).f1, (rd_T38 t229 x10_1).f2⟩ : S38)]) := ⟨_, rfl⟩
                replace H : (ferruleref13_Holes.l0 k1 t229 y237 (wrap64 (x10_1 + 1))) = some r := by first | (rw [hy237]; with_reducible exact H) | (have H2_ := (Option.bind_some _ _).symm.trans H; rw [hy237]; with_reducible exact H2_) | (have H2_ := (Option.bind_some _ _).symm.trans H; with_reducible exact H2_) | with_reducible exact H | (rw [hy237]; exact H) | exact H
                have Ny237 := Aside0.mk hy237
                clear hy237
                have H' := Aside0.mk H
                clear H
                obtain ⟨Ao16, co16, eo16⟩ := Kd.R_slice HO_8.out
                subst eo16
                have p235 : 0 ≤ (x10_1 : Int) := of_decide_eq_true (by with_reducible assumption)
                have q235 : x10_1 < (t229.length : Int) := of_decide_eq_true (by with_reducible assumption)
                obtain ⟨ad235, e235, hx235_0, hx235_1, hx235_2⟩ := at_T38 (Kd.R_reads' HO_8.out).2.2 x10_1 p235 q235
                cases e235
                replace p235 := eq_true p235
                replace q235 := eq_true q235
                have p236 : 0 ≤ (x10_1 : Int) := of_decide_eq_true (by with_reducible assumption)
                have q236 : x10_1 < (t229.length : Int) := of_decide_eq_true (by with_reducible assumption)
                obtain ⟨ad236, e236, hx236_0, hx236_1, hx236_2⟩ := at_T38 (Kd.R_reads' HO_8.out).2.2 x10_1 p236 q236
                obtain rfl : ad235 = ad236 := (by injection e236)
                replace p236 := eq_true p236
                replace q236 := eq_true q236
                go_wp2_with (first | ((with_reducible refine gate_builtin (b := .append) (xs := #[.tmp 30, .tmp 35]) rfl ?_); at_builtin; refine Kd.R_append k38 (w0 := w) w.heap.size rfl (.tmp 30) (.tmp 35) 23 38 (.agg #[(.int .i64 0), (.int .i64 0), (.int .i64 0)]) 24 rfl Try.underlying23 info38 rfl (by decide) (by omega) u9 x9_1 (⟨(rd_T38 t229 x10_1).f0, (rd_T38 t229 x10_1).f1, (rd_T38 t229 x10_1).f2⟩ : S38) [.int .i64 ((rd_T38 t229 x10_1).f0), .int .i64 ((rd_T38 t229 x10_1).f1), .int .i64 ((rd_T38 t229 x10_1).f2)] (fun k_ => some k_ ≠ (.slice (some ad235) t229.length co16 : Value).ownBlock) (fun _ => False) rfl rfl ?aP (fun _ hk => hk.elim) ?aF ?aO ?aB ?aS ?aL ?_; (case aP => exact k38_mkM _ _ _ (⟨(rd_T38 t229 x10_1).f0, (rd_T38 t229 x10_1).f1, (rd_T38 t229 x10_1).f2⟩ : S38)); (case aB => exact (by repeat with_reducible first | exact HB.out | apply below_alloc | apply pw_below_drewN | apply below_drew1)); (case aF => exact (fun k_ hk => Kd.fresh' (Kd.R_lt (by (with_reducible repeat (first | apply Kd.R_alloc | apply Kd.R_drewN | apply Kd.R_drew)); exact HO_8.out)) k_ hk)); (case aO => exact (by (with_reducible repeat (first | apply Kd.R_alloc | apply Kd.R_drewN | apply Kd.R_drew)); exact HO_9.out)); (case aS => exact (below_size (by repeat with_reducible first | exact HB.out | apply below_alloc | apply pw_below_drewN | apply below_drew1))); (case aL => have := LMc15.out; omega); intro v238 w17 ho hb hg hat; rw [← Ny237.out] at ho; have n0_ := Aside0.mk (Kd.R_after (ok := (fun _ => True)) (by (with_reducible repeat (first | apply Kd.R_alloc | apply Kd.R_drewN | apply Kd.R_drew)); exact Kd.R_mono HO_8.out (fun _ hk => ⟨trivial, hk⟩)) hg hat); have n1_ := Aside0.mk (hb); have n2_ := Aside0.mk (ho); clear HO_8; clear HB; clear HO_9; have HO_8 := n0_; have HB := n1_; have HO239 := n2_; clear n0_ n1_ n2_; clear ho hb hg hat))
                go_roundg k1
                case measure => have := HK1.out; omega
                case rel => exact ⟨(y237), (wrap64 (x10_1 + 1)), (by first | rfl | (simp; done) | (simp [*]; done)), H', ⟨by have := HK1.out; omega⟩, ⟨by (with_reducible repeat (first | apply Kd.R_alloc | apply Kd.R_drewN | apply Kd.R_drew)); exact Kd.R_mono HO_8.out (fun _ hk => hk.2)⟩, ⟨by (with_reducible repeat (first | apply Kd.R_alloc | apply Kd.R_drewN | apply Kd.R_drew)); exact HO239.out⟩, ⟨by repeat with_reducible first | exact HB.out | apply below_alloc | apply pw_below_drewN | apply below_drew1⟩⟩
              · rw [if_neg c15] at H
                exact absurd H (by simp)
            · rw [if_neg c14] at H
              have c14b0 : decide (((rd_T38 t229 x10_1).f2) < 0) = false := decide_eq_false c14
              clear c14
              have H' := Aside0.mk H
              clear H
              obtain ⟨Ao18, co18, eo18⟩ := Kd.R_slice HO_8.out
              subst eo18
              have p235 : 0 ≤ (x10_1 : Int) := of_decide_eq_true (by with_reducible assumption)
              have q235 : x10_1 < (t229.length : Int) := of_decide_eq_true (by with_reducible assumption)
              obtain ⟨ad235, e235, hx235_0, hx235_1, hx235_2⟩ := at_T38 (Kd.R_reads' HO_8.out).2.2 x10_1 p235 q235
              cases e235
              replace p235 := eq_true p235
              replace q235 := eq_true q235
              go_wp2
              go_roundg k1
              case measure => have := HK1.out; omega
              case rel => exact ⟨(x9_1), (wrap64 (x10_1 + 1)), (by first | rfl | (simp; done) | (simp [*]; done)), H', ⟨by have := HK1.out; omega⟩, ⟨by (with_reducible repeat (first | apply Kd.R_alloc | apply Kd.R_drewN | apply Kd.R_drew)); exact HO_8.out⟩, ⟨by (with_reducible repeat (first | apply Kd.R_alloc | apply Kd.R_drewN | apply Kd.R_drew)); exact HO_9.out⟩, ⟨by repeat with_reducible first | exact HB.out | apply below_alloc | apply pw_below_drewN | apply below_drew1⟩⟩
          · rw [if_neg c13] at H
            exact absurd H (by simp)
        · rw [if_neg c12] at H
          have c12b0 : decide (x10_1 < (t229.length : Int)) = false := decide_eq_false c12
          clear c12
          obtain rfl := Option.some.inj H
          obtain ⟨Ao19, co19, eo19⟩ := Kd.R_slice HO_8.out
          subst eo19
          go_wp2
          go_ret
          exact ⟨_, by first | rfl | (simp [errW_none, errW_some] <;> rfl) | (simp [*, errW_none, errW_some] <;> rfl), by (with_reducible repeat (first | apply Kd.R_alloc | apply Kd.R_drewN | apply Kd.R_drew)); exact Kd.R_mono HO_9.out (fun _ hk => trivial), by repeat with_reducible first | exact HB.out | apply below_alloc | apply pw_below_drewN | apply below_drew1⟩
  · rw [if_neg c6] at H
    exact absurd H (by simp)

end Go.Proofs.Ytigecigoomofdaa.PWindowTells
