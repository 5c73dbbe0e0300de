-- By a program of this session (NOTES.md). Lean checks it.
import Derived.Test.YtigecigoomofdaaPWindowTellsx0
import Derived.Test.YtigecigoomofdaaPWindowTellsx3
namespace Go.Proofs.Ytigecigoomofdaa.PWindowTells
open Go.RowKit Go.Proofs.YtigecigoomofdaaW.PrintWords Go.Proofs.YtigecigoomofdaaW.PrintLast Go.Proofs.YtigecigoomofdaaW.PrintMore
attribute [local go_sem] max2_int min2_int max_two min_two max_three min_three max_four min_four   -- for this text's walks alone
set_option linter.unusedVariables false
set_option linter.unusedSimpArgs false

/-! ### window_Holes: function 8 -/
mutual
def window_Holes.j0 : Nat → List (S39) → Int → Int → Bool → Option ((List (S38)) × Int)
  | 0, _, _, _, _ => none
  | k + 1, x0, x1, x2, x40 => if x40 = true then (some (([] : List (S38)), 1)) else (window_Holes.l0 k x0 x1 x2 x0 (x0.length : Int) 0)
def window_Holes.l0 : Nat → List (S39) → Int → Int → List (S39) → Int → Int → Option ((List (S38)) × Int)
  | 0, _, _, _, _, _, _ => none
  | k + 1, x0, x1, x2, x41, x42, x43 => if x43 < x42 then (if 0 ≤ x43 then (if x43 < (x41.length : Int) then (if ((rd_T39 x41 x43).f1) > 512 then (some (([] : List (S38)), 1)) else (if ((rd_T39 x41 x43).f0) > (wrap64 (512 - ((rd_T39 x41 x43).f1))) then (some (([] : List (S38)), 1)) else (window_Holes.l0 k x0 x1 x2 x41 x42 (wrap64 (x43 + 1))))) else (none)) else (none)) else (window_Holes.l1 k ([] : List (S38)) x1 (wrap64 (x1 + x2)) x0 (x0.length : Int) 0)
def window_Holes.l1 : Nat → List (S38) → Int → Int → List (S39) → Int → Int → Option ((List (S38)) × Int)
  | 0, _, _, _, _, _, _ => none
  | k + 1, x10, x11, x12, x63, x64, x65 => if x65 < x64 then (if 0 ≤ x65 then (if x65 < (x63.length : Int) then (if ((rd_T39 x63 x65).f0) ≥ x12 then (if x11 < x12 then (if x10.length < 5864062014805 then (some ((x10 ++ [(⟨x11, wrap64 (x12 - x11), (-1)⟩ : S38)]), 0)) else (none)) else (some (x10, 0))) else (if ((rd_T39 x63 x65).f0) > x11 then (if x10.length < 5864062014805 then ((some (x10 ++ [(⟨x11, wrap64 (((rd_T39 x63 x65).f0) - x11), (-1)⟩ : S38)] : List (S38))).bind fun y116 => (if ((rd_T39 x63 x65).f1) ≥ (wrap64 (x12 - ((rd_T39 x63 x65).f0))) then (some (y116, 0)) else (window_Holes.l1 k y116 (mx x11 (wrap64 (((rd_T39 x63 x65).f0) + ((rd_T39 x63 x65).f1)))) x12 x63 x64 (wrap64 (x65 + 1))))) else (none)) else (if ((rd_T39 x63 x65).f1) ≥ (wrap64 (x12 - ((rd_T39 x63 x65).f0))) then (some (x10, 0)) else (window_Holes.l1 k x10 (mx x11 (wrap64 (((rd_T39 x63 x65).f0) + ((rd_T39 x63 x65).f1)))) x12 x63 x64 (wrap64 (x65 + 1)))))) else (none)) else (none)) else (if x11 < x12 then (if x10.length < 5864062014805 then (some ((x10 ++ [(⟨x11, wrap64 (x12 - x11), (-1)⟩ : S38)]), 0)) else (none)) else (some (x10, 0)))
end
def window_Holes.f (k : Nat) (l0 : List (S39)) (a1 : Int) (a2 : Int) : Option ((List (S38)) × Int) := if (l0.length : Int) > 512 then (window_Holes.j0 k l0 a1 a2 true) else ((span_Form.f k l0).bind fun t105 => (if t105 = true then (if a2 < 1 then (window_Holes.j0 k l0 a1 a2 true) else (if a2 > 512 then (window_Holes.j0 k l0 a1 a2 true) else (if a1 < 0 then (window_Holes.j0 k l0 a1 a2 true) else (window_Holes.j0 k l0 a1 a2 (decide (a1 > (wrap64 (512 - a2)))))))) else (window_Holes.j0 k l0 a1 a2 true)))
theorem window_Holes.mono_l : ∀ k, (∀ y0 y1 y2 y3, LeO (window_Holes.j0 k y0 y1 y2 y3) (window_Holes.j0 (k + 1) y0 y1 y2 y3)) ∧ (∀ y0 y1 y2 y3 y4 y5, LeO (window_Holes.l0 k y0 y1 y2 y3 y4 y5) (window_Holes.l0 (k + 1) y0 y1 y2 y3 y4 y5)) ∧ (∀ y0 y1 y2 y3 y4 y5, LeO (window_Holes.l1 k y0 y1 y2 y3 y4 y5) (window_Holes.l1 (k + 1) y0 y1 y2 y3 y4 y5))
  | 0 => ⟨fun _ _ _ _ r h => by simp [window_Holes.j0] at h, fun _ _ _ _ _ _ r h => by simp [window_Holes.l0] at h, fun _ _ _ _ _ _ r h => by simp [window_Holes.l1] at h⟩
  | k + 1 => by
    obtain ⟨ih0, ih1, ih2⟩ := window_Holes.mono_l k
    refine ⟨?_, ?_, ?_⟩
    · intro y0 y1 y2 y3
      unfold window_Holes.j0
      repeat' first
      | (with_reducible exact ih0 _ _ _ _)
      | (with_reducible exact ih1 _ _ _ _ _ _)
      | (with_reducible exact ih2 _ _ _ _ _ _)
      | (with_reducible exact span_Form.mono _ _)
      | (with_reducible exact LeO.refl _)
      | (with_reducible exact LeO.none _)
      | (with_reducible refine LeO.ite ?_ ?_)
      | (with_reducible refine LeO.bind ?_ (fun _ => ?_))
      | exact ih0 _ _ _ _
      | exact ih1 _ _ _ _ _ _
      | exact ih2 _ _ _ _ _ _
      | exact span_Form.mono _ _
      | exact LeO.none _
      | refine LeO.ite ?_ ?_
      | refine LeO.bind ?_ (fun _ => ?_)
    · intro y0 y1 y2 y3 y4 y5
      unfold window_Holes.l0
      repeat' first
      | (with_reducible exact ih0 _ _ _ _)
      | (with_reducible exact ih1 _ _ _ _ _ _)
      | (with_reducible exact ih2 _ _ _ _ _ _)
      | (with_reducible exact span_Form.mono _ _)
      | (with_reducible exact LeO.refl _)
      | (with_reducible exact LeO.none _)
      | (with_reducible refine LeO.ite ?_ ?_)
      | (with_reducible refine LeO.bind ?_ (fun _ => ?_))
      | exact ih0 _ _ _ _
      | exact ih1 _ _ _ _ _ _
      | exact ih2 _ _ _ _ _ _
      | exact span_Form.mono _ _
      | exact LeO.none _
      | refine LeO.ite ?_ ?_
      | refine LeO.bind ?_ (fun _ => ?_)
    · intro y0 y1 y2 y3 y4 y5
      unfold window_Holes.l1
      repeat' first
      | (with_reducible exact ih0 _ _ _ _)
      | (with_reducible exact ih1 _ _ _ _ _ _)
      | (with_reducible exact ih2 _ _ _ _ _ _)
      | (with_reducible exact span_Form.mono _ _)
      | (with_reducible exact LeO.refl _)
      | (with_reducible exact LeO.none _)
      | (with_reducible refine LeO.ite ?_ ?_)
      | (with_reducible refine LeO.bind ?_ (fun _ => ?_))
      | exact ih0 _ _ _ _
      | exact ih1 _ _ _ _ _ _
      | exact ih2 _ _ _ _ _ _
      | exact span_Form.mono _ _
      | exact LeO.none _
      | refine LeO.ite ?_ ?_
      | refine LeO.bind ?_ (fun _ => ?_)
theorem window_Holes.mono : ∀ a0 a1 a2 k, LeO (window_Holes.f k a0 a1 a2) (window_Holes.f (k + 1) a0 a1 a2) := by
  intro a0 a1 a2 k
  obtain ⟨ih0, ih1, ih2⟩ := window_Holes.mono_l k
  unfold window_Holes.f
  repeat' first
      | (with_reducible exact ih0 _ _ _ _)
      | (with_reducible exact ih1 _ _ _ _ _ _)
      | (with_reducible exact ih2 _ _ _ _ _ _)
      | (with_reducible exact span_Form.mono _ _)
      | (with_reducible exact LeO.refl _)
      | (with_reducible exact LeO.none _)
      | (with_reducible refine LeO.ite ?_ ?_)
      | (with_reducible refine LeO.bind ?_ (fun _ => ?_))
      | exact ih0 _ _ _ _
      | exact ih1 _ _ _ _ _ _
      | exact ih2 _ _ _ _ _ _
      | exact span_Form.mono _ _
      | exact LeO.none _
      | refine LeO.ite ?_ ?_
      | refine LeO.bind ?_ (fun _ => ?_)
set_option maxHeartbeats 8000000 in
set_option maxRecDepth 100000 in
theorem window_Holes.calls (k : Nat) (A0 : Option Addr) (c0 : Nat) (l0 : List (S39)) (a1 : Int) (a2 : Int) (r1 : List (S38)) (r2 : Int) (w : World) (hr0 : Kd.C k39 w A0 l0.length l0) (hc0 : l0.length ≤ c0) (h : window_Holes.f k l0 a1 a2 = some (r1, r2)) :
    Calls Try.prog 8 #[.slice A0 l0.length c0, .int .i64 a1, .int .i64 a2] w fun e w' => ∃ v0_ : Value, e = .returned (.tuple #[v0_, .int .i64 r2]) ∧ Kd.R k38 38 w' w.heap.size (fun _ => True) v0_ r1 ∧ Below w.heap.size w w' := by
 have hu39 := Try.underlying39
 have hu38 := Try.underlying38
 have HR0 := Aside0.mk hr0
 have HC0 := Aside0.mk hc0
 clear hr0 hc0
 have HB := Aside0.mk (Below.refl w.heap.size w)
 have H : (if (l0.length : Int) > 512 then (window_Holes.j0 k l0 a1 a2 true) else ((span_Form.f k l0).bind fun t105 => (if t105 = true then (if a2 < 1 then (window_Holes.j0 k l0 a1 a2 true) else (if a2 > 512 then (window_Holes.j0 k l0 a1 a2 true) else (if a1 < 0 then (window_Holes.j0 k l0 a1 a2 true) else (window_Holes.j0 k l0 a1 a2 (decide (a1 > (wrap64 (512 - a2)))))))) else (window_Holes.j0 k l0 a1 a2 true)))) = some (r1, r2) := h
 clear h
 have HC4 := Aside0.mk H
 clear H
 go_enter Try.func8, Try.ntmps8
 go_upto_region 1 with (fail)
 go_cut [40] (fun v40 wc => ∃ (kq : Nat) (x40_3 : Bool), v40 = .bool x40_3 ∧ Aside0 (window_Holes.j0 kq l0 a1 a2 x40_3 = some (r1, r2)) ∧ Aside0 (kq ≤ k) ∧ Aside0 (Below w.heap.size w wc))
 case first =>
  have H := HC4.out
  clear HC4
  by_cases c5 : (l0.length : Int) > 512
  {
  rw [if_pos c5] at H
  have c5b0 : decide (512 < (l0.length : Int)) = true := decide_eq_true c5
  have c5b1 : decide (512 < l0.length) = true := decide_eq_true (by omega)
  clear c5
  (first | rw [c5b0] | (simp only [i64_w, i32_w]; rw [c5b0]) | skip)
  have H' := Aside0.mk H
  clear H
  go_wp2
  go_meet
  case rel => exact ⟨_, (true), (by first | rfl | (simp; done) | (simp [*]; done)), H', ⟨by first | omega | exact Nat.le_refl _⟩, ⟨by repeat with_reducible first | exact HB.out | apply below_alloc | apply pw_below_drewN | apply below_drew1⟩⟩
  }
  {
  rw [if_neg c5] at H
  have c5b0 : decide (512 < (l0.length : Int)) = false := decide_eq_false c5
  have c5b1 : decide (512 < l0.length) = false := decide_eq_false (by omega)
  clear c5
  (first | rw [c5b0] | (simp only [i64_w, i32_w]; rw [c5b0]) | skip)
  replace H := Option.bind_eq_some_iff.mp H
  obtain ⟨t105, A60, H⟩ := H
  replace H : (if t105 = true then (if a2 < 1 then (window_Holes.j0 k l0 a1 a2 true) else (if a2 > 512 then (window_Holes.j0 k l0 a1 a2 true) else (if a1 < 0 then (window_Holes.j0 k l0 a1 a2 true) else (window_Holes.j0 k l0 a1 a2 (decide (a1 > (wrap64 (512 - a2)))))))) else (window_Holes.j0 k l0 a1 a2 true)) = some (r1, r2) := H
  have A6 := Aside0.mk A60
  clear A60
  by_cases c7 : t105 = true
  {
  subst c7
  have H1 : (if a2 < 1 then (window_Holes.j0 k l0 a1 a2 true) else (if a2 > 512 then (window_Holes.j0 k l0 a1 a2 true) else (if a1 < 0 then (window_Holes.j0 k l0 a1 a2 true) else (window_Holes.j0 k l0 a1 a2 (decide (a1 > (wrap64 (512 - a2)))))))) = some (r1, r2) := by rw [if_pos rfl] at H; exact H
  clear H
  have H := H1
  clear H1
  by_cases c8 : a2 < 1
  {
  rw [if_pos c8] at H
  have c8b0 : decide (a2 < 1) = true := decide_eq_true c8
  clear c8
  have H' := Aside0.mk H
  clear H
  go_wp2_with (first | (go_at_call 18; (with_reducible refine (span_Form.calls k _ _ l0 true _ ?side1 ?side2 A6.out).mono ?_); (case side1 => repeat (first | exact (Kd.C_below HR0.out HB.out) | (with_reducible refine Kd.C_alloc ?_ _) | (with_reducible refine Kd.C_drewN ?_ _) | (with_reducible refine Kd.C_drew ?_))); (case side2 => exact HC0.out); rintro e w9 ⟨rfl, hb⟩; have n0_ := Aside0.mk (below_step (by repeat with_reducible first | exact HB.out | apply below_alloc | apply pw_below_drewN | apply below_drew1) hb); clear HB; have HB := n0_; clear n0_; (try clear hb); (try clear hb2); (try clear hk); (try clear hi)))
  go_meet
  case rel => exact ⟨_, (true), (by first | rfl | (simp; done) | (simp [*]; done)), H', ⟨by first | omega | exact Nat.le_refl _⟩, ⟨by repeat with_reducible first | exact HB.out | apply below_alloc | apply pw_below_drewN | apply below_drew1⟩⟩
  }
  {
  rw [if_neg c8] at H
  have c8b0 : decide (a2 < 1) = false := decide_eq_false c8
  clear c8
  by_cases c10 : a2 > 512
  {
  rw [if_pos c10] at H
  have c10b0 : decide (512 < a2) = true := decide_eq_true c10
  clear c10
  have H' := Aside0.mk H
  clear H
  go_wp2_with (first | (go_at_call 18; (with_reducible refine (span_Form.calls k _ _ l0 true _ ?side1 ?side2 A6.out).mono ?_); (case side1 => repeat (first | exact (Kd.C_below HR0.out HB.out) | (with_reducible refine Kd.C_alloc ?_ _) | (with_reducible refine Kd.C_drewN ?_ _) | (with_reducible refine Kd.C_drew ?_))); (case side2 => exact HC0.out); rintro e w11 ⟨rfl, hb⟩; have n0_ := Aside0.mk (below_step (by repeat with_reducible first | exact HB.out | apply below_alloc | apply pw_below_drewN | apply below_drew1) hb); clear HB; have HB := n0_; clear n0_; (try clear hb); (try clear hb2); (try clear hk); (try clear hi)))
  go_meet
  case rel => exact ⟨_, (true), (by first | rfl | (simp; done) | (simp [*]; done)), H', ⟨by first | omega | exact Nat.le_refl _⟩, ⟨by repeat with_reducible first | exact HB.out | apply below_alloc | apply pw_below_drewN | apply below_drew1⟩⟩
  }
  {
  rw [if_neg c10] at H
  have c10b0 : decide (512 < a2) = false := decide_eq_false c10
  clear c10
  by_cases c12 : a1 < 0
  {
  rw [if_pos c12] at H
  have c12b0 : decide (a1 < 0) = true := decide_eq_true c12
  clear c12
  have H' := Aside0.mk H
  clear H
  go_wp2_with (first | (go_at_call 18; (with_reducible refine (span_Form.calls k _ _ l0 true _ ?side1 ?side2 A6.out).mono ?_); (case side1 => repeat (first | exact (Kd.C_below HR0.out HB.out) | (with_reducible refine Kd.C_alloc ?_ _) | (with_reducible refine Kd.C_drewN ?_ _) | (with_reducible refine Kd.C_drew ?_))); (case side2 => exact HC0.out); rintro e w13 ⟨rfl, hb⟩; have n0_ := Aside0.mk (below_step (by repeat with_reducible first | exact HB.out | apply below_alloc | apply pw_below_drewN | apply below_drew1) hb); clear HB; have HB := n0_; clear n0_; (try clear hb); (try clear hb2); (try clear hk); (try clear hi)))
  go_meet
  case rel => exact ⟨_, (true), (by first | rfl | (simp; done) | (simp [*]; done)), H', ⟨by first | omega | exact Nat.le_refl _⟩, ⟨by repeat with_reducible first | exact HB.out | apply below_alloc | apply pw_below_drewN | apply below_drew1⟩⟩
  }
  {
  rw [if_neg c12] at H
  have c12b0 : decide (a1 < 0) = false := decide_eq_false c12
  clear c12
  have H' := Aside0.mk H
  clear H
  go_wp2_with (first | (go_at_call 18; (with_reducible refine (span_Form.calls k _ _ l0 true _ ?side1 ?side2 A6.out).mono ?_); (case side1 => repeat (first | exact (Kd.C_below HR0.out HB.out) | (with_reducible refine Kd.C_alloc ?_ _) | (with_reducible refine Kd.C_drewN ?_ _) | (with_reducible refine Kd.C_drew ?_))); (case side2 => exact HC0.out); rintro e w14 ⟨rfl, hb⟩; have n0_ := Aside0.mk (below_step (by repeat with_reducible first | exact HB.out | apply below_alloc | apply pw_below_drewN | apply below_drew1) hb); clear HB; have HB := n0_; clear n0_; (try clear hb); (try clear hb2); (try clear hk); (try clear hi)))
  go_meet
  case rel => exact ⟨_, (decide (a1 > (wrap64 (512 - a2)))), (by first | rfl | (simp; done) | (simp [*]; done)), H', ⟨by first | omega | exact Nat.le_refl _⟩, ⟨by repeat with_reducible first | exact HB.out | apply below_alloc | apply pw_below_drewN | apply below_drew1⟩⟩
  }
  }
  }
  }
  {
  replace c7 := Bool.eq_false_iff.mpr c7
  subst c7
  have H1 : (window_Holes.j0 k l0 a1 a2 true) = some (r1, r2) := by rw [if_neg (show ¬ (false = true) by decide)] at H; exact H
  clear H
  have H := H1
  clear H1
  have H' := Aside0.mk H
  clear H
  go_wp2_with (first | (go_at_call 18; (with_reducible refine (span_Form.calls k _ _ l0 false _ ?side1 ?side2 A6.out).mono ?_); (case side1 => repeat (first | exact (Kd.C_below HR0.out HB.out) | (with_reducible refine Kd.C_alloc ?_ _) | (with_reducible refine Kd.C_drewN ?_ _) | (with_reducible refine Kd.C_drew ?_))); (case side2 => exact HC0.out); rintro e w15 ⟨rfl, hb⟩; have n0_ := Aside0.mk (below_step (by repeat with_reducible first | exact HB.out | apply below_alloc | apply pw_below_drewN | apply below_drew1) hb); clear HB; have HB := n0_; clear n0_; (try clear hb); (try clear hb2); (try clear hk); (try clear hi)))
  go_meet
  case rel => exact ⟨_, (true), (by first | rfl | (simp; done) | (simp [*]; done)), H', ⟨by first | omega | exact Nat.le_refl _⟩, ⟨by repeat with_reducible first | exact HB.out | apply below_alloc | apply pw_below_drewN | apply below_drew1⟩⟩
  }
  }
 case rest =>
  clear HC4
  try clear c1
  try clear p2
  try clear c5
  try clear c5b0
  try clear c5b1
  try clear p6
  try clear c7
  try clear c8
  try clear c8b0
  try clear c10
  try clear c10b0
  try clear c12
  try clear c12b0
  obtain ⟨kq, x40_3, rfl, HA, HJ3, HB⟩ := hcut
  cases kq with
  | zero => exact absurd HA.out (by simp [window_Holes.j0])
  | succ kj3 =>
    have H := HA.out
    clear HA
    simp only [window_Holes.j0] at H
    by_cases c16 : x40_3 = true
    · subst c16
      have H1 : (some (([] : List (S38)), 1)) = some (r1, r2) := by rw [if_pos rfl] at H; exact H
      clear H
      have H := H1
      clear H1
      simp only [Option.some.injEq, Prod.mk.injEq] at H
      obtain ⟨rfl, rfl⟩ := H
      go_wp2
      go_ret2
      exact ⟨_, by first | rfl | (simp [errW_none, errW_some] <;> rfl) | (simp [*, errW_none, errW_some] <;> rfl), by first | exact Kd.R_nil _ _ _ _ _ | exact Kd.N_nil _ _ _ _ _ | exact Kd.V_nil _ _ _ _ _ | exact Kd.Q_nil _ _ _ _ _ | exact Kd.S_nil _ _ _ _ _, by repeat with_reducible first | exact HB.out | apply below_alloc | apply pw_below_drewN | apply below_drew1⟩
    · replace c16 := Bool.eq_false_iff.mpr c16
      subst c16
      have H1 : (window_Holes.l0 kj3 l0 a1 a2 l0 (l0.length : Int) 0) = some (r1, r2) := by rw [if_neg (show ¬ (false = true) by decide)] at H; exact H
      clear H
      have H := H1
      clear H1
      have H' := Aside0.mk H
      clear H
      go_wp2
      go_loopg [43] kj3 (fun kq v43 w' => ∃ (x43_2 : Int), v43 = .int .i64 x43_2 ∧ Aside0 (window_Holes.l0 kq l0 a1 a2 l0 (l0.length : Int) x43_2 = some (r1, r2)) ∧ Aside0 (kq ≤ kj3) ∧ Aside0 (Below w.heap.size w w'))
      case atStart => exact ⟨(0), (by first | rfl | (simp; done) | (simp [*]; done)), H', ⟨Nat.le_refl _⟩, ⟨by repeat with_reducible first | exact HB.out | apply below_alloc | apply pw_below_drewN | apply below_drew1⟩⟩
      case round =>
        clear H'
        try clear c1
        try clear p2
        try clear c5
        try clear c5b0
        try clear c5b1
        try clear p6
        try clear c7
        try clear c8
        try clear c8b0
        try clear c10
        try clear c10b0
        try clear c12
        try clear c12b0
        try clear c16
        try clear p2
        try clear p6
        obtain ⟨x43_2, rfl, HA, HK2, HB⟩ := hrel
        cases gk with
        | zero => exact absurd HA.out (by simp [window_Holes.l0])
        | succ k2 =>
          have H := HA.out
          clear HA
          simp only [window_Holes.l0] at H
          by_cases c17 : x43_2 < (l0.length : Int)
          · rw [if_pos c17] at H
            have c17b0 : decide (x43_2 < (l0.length : Int)) = true := decide_eq_true c17
            clear c17
            by_cases c18 : 0 ≤ x43_2
            · rw [if_pos c18] at H
              have c18b0 : decide (0 ≤ x43_2) = true := decide_eq_true c18
              clear c18
              by_cases c19 : x43_2 < (l0.length : Int)
              · rw [if_pos c19] at H
                have c19b0 : decide (x43_2 < (l0.length : Int)) = true := decide_eq_true c19
                clear c19
                by_cases c20 : ((rd_T39 l0 x43_2).f1) > 512
                · rw [if_pos c20] at H
                  have c20b0 : decide (512 < ((rd_T39 l0 x43_2).f1)) = true := decide_eq_true c20
                  clear c20
                  simp only [Option.some.injEq, Prod.mk.injEq] at H
                  obtain ⟨rfl, rfl⟩ := H
                  have p106 : 0 ≤ (x43_2 : Int) := of_decide_eq_true (by with_reducible assumption)
                  have q106 : x43_2 < (l0.length : Int) := of_decide_eq_true (by with_reducible assumption)
                  obtain ⟨ad106, e106, hx106_0, hx106_1, hx106_2⟩ := at_T39 HR0.out x43_2 p106 q106
                  cases e106
                  replace hx106_0 := (HB.out.cell (World.block_lt_of_cell? w _ hx106_0)).trans hx106_0
                  replace hx106_1 := (HB.out.cell (World.block_lt_of_cell? w _ hx106_1)).trans hx106_1
                  replace hx106_2 := (HB.out.cell (World.block_lt_of_cell? w _ hx106_2)).trans hx106_2
                  replace p106 := eq_true p106
                  replace q106 := eq_true q106
                  go_wp2_with (first | ((with_reducible refine gate_dst (N := 9) rfl ?_); refine box_event ?hg (N := 9) ?hd (cs := #[.int .i64 0, .int .i64 0, .int .i64 0]) (t := 39) ?hr ?_; (case hd => rfl); (case hg => rfl); (case hr => first | (go_simp; done) | (go_simp; rfl)); intro gb107 hg w21 hbox hb; have n0_ := Aside0.mk (below_step (by repeat with_reducible first | exact HB.out | apply below_alloc | apply pw_below_drewN | apply below_drew1) hb); have n1_ := Aside0.mk (hbox); have n2_ := Aside0.mk ((by rw [hg]; exact (below_size (by repeat with_reducible first | exact HB.out | apply below_alloc | apply pw_below_drewN | apply below_drew1)) : w.heap.size ≤ gb107)); have n3_ := Aside0.mk ((by rw [hg]; exact (below_size (by repeat with_reducible first | exact HB.out | apply below_alloc | apply pw_below_drewN | apply below_drew1)) : w.heap.size ≤ gb107)); clear HB; have HB := n0_; have BK107 := n1_; have GW107 := n2_; have GE107 := n3_; clear n0_ n1_ n2_ n3_; clear hb hbox hg; have hcz22_0 : w21.cell? ⟨gb107, 0, none⟩ = some (.int .i64 0) := (blk_cell BK107.out 0).trans rfl; have hcz22_1 : w21.cell? ⟨gb107, 1, none⟩ = some (.int .i64 0) := (blk_cell BK107.out 1).trans rfl; have hcz22_2 : w21.cell? ⟨gb107, 2, none⟩ = some (.int .i64 0) := (blk_cell BK107.out 2).trans rfl; have hfz22_0 := blk_frozen BK107.out 0; have hfz22_1 := blk_frozen BK107.out 1; have hfz22_2 := blk_frozen BK107.out 2))
                  go_ret2
                  exact ⟨_, by first | rfl | (simp [errW_none, errW_some] <;> rfl) | (simp [*, errW_none, errW_some] <;> rfl), by first | exact Kd.R_nil _ _ _ _ _ | exact Kd.N_nil _ _ _ _ _ | exact Kd.V_nil _ _ _ _ _ | exact Kd.Q_nil _ _ _ _ _ | exact Kd.S_nil _ _ _ _ _, by repeat (first | (with_reducible first | exact HB.out | apply below_alloc | apply pw_below_drewN | apply below_drew1 | refine below_set ?_ GE107.out) | exact HB.out)⟩
                · rw [if_neg c20] at H
                  have c20b0 : decide (512 < ((rd_T39 l0 x43_2).f1)) = false := decide_eq_false c20
                  clear c20
                  by_cases c23 : ((rd_T39 l0 x43_2).f0) > (wrap64 (512 - ((rd_T39 l0 x43_2).f1)))
                  · rw [if_pos c23] at H
                    have c23b0 : decide ((wrap64 (512 - ((rd_T39 l0 x43_2).f1))) < ((rd_T39 l0 x43_2).f0)) = true := decide_eq_true c23
                    clear c23
                    simp only [Option.some.injEq, Prod.mk.injEq] at H
                    obtain ⟨rfl, rfl⟩ := H
                    have p106 : 0 ≤ (x43_2 : Int) := of_decide_eq_true (by with_reducible assumption)
                    have q106 : x43_2 < (l0.length : Int) := of_decide_eq_true (by with_reducible assumption)
                    obtain ⟨ad106, e106, hx106_0, hx106_1, hx106_2⟩ := at_T39 HR0.out x43_2 p106 q106
                    cases e106
                    replace hx106_0 := (HB.out.cell (World.block_lt_of_cell? w _ hx106_0)).trans hx106_0
                    replace hx106_1 := (HB.out.cell (World.block_lt_of_cell? w _ hx106_1)).trans hx106_1
                    replace hx106_2 := (HB.out.cell (World.block_lt_of_cell? w _ hx106_2)).trans hx106_2
                    replace p106 := eq_true p106
                    replace q106 := eq_true q106
                    go_wp2_with (first | ((with_reducible refine gate_dst (N := 9) rfl ?_); refine box_event ?hg (N := 9) ?hd (cs := #[.int .i64 0, .int .i64 0, .int .i64 0]) (t := 39) ?hr ?_; (case hd => rfl); (case hg => rfl); (case hr => first | (go_simp; done) | (go_simp; rfl)); intro gb107 hg w24 hbox hb; have n0_ := Aside0.mk (below_step (by repeat with_reducible first | exact HB.out | apply below_alloc | apply pw_below_drewN | apply below_drew1) hb); have n1_ := Aside0.mk (hbox); have n2_ := Aside0.mk ((by rw [hg]; exact (below_size (by repeat with_reducible first | exact HB.out | apply below_alloc | apply pw_below_drewN | apply below_drew1)) : w.heap.size ≤ gb107)); have n3_ := Aside0.mk ((by rw [hg]; exact (below_size (by repeat with_reducible first | exact HB.out | apply below_alloc | apply pw_below_drewN | apply below_drew1)) : w.heap.size ≤ gb107)); clear HB; have HB := n0_; have BK107 := n1_; have GW107 := n2_; have GE107 := n3_; clear n0_ n1_ n2_ n3_; clear hb hbox hg; have hcz25_0 : w24.cell? ⟨gb107, 0, none⟩ = some (.int .i64 0) := (blk_cell BK107.out 0).trans rfl; have hcz25_1 : w24.cell? ⟨gb107, 1, none⟩ = some (.int .i64 0) := (blk_cell BK107.out 1).trans rfl; have hcz25_2 : w24.cell? ⟨gb107, 2, none⟩ = some (.int .i64 0) := (blk_cell BK107.out 2).trans rfl; have hfz25_0 := blk_frozen BK107.out 0; have hfz25_1 := blk_frozen BK107.out 1; have hfz25_2 := blk_frozen BK107.out 2))
                    go_ret2
                    exact ⟨_, by first | rfl | (simp [errW_none, errW_some] <;> rfl) | (simp [*, errW_none, errW_some] <;> rfl), by first | exact Kd.R_nil _ _ _ _ _ | exact Kd.N_nil _ _ _ _ _ | exact Kd.V_nil _ _ _ _ _ | exact Kd.Q_nil _ _ _ _ _ | exact Kd.S_nil _ _ _ _ _, by repeat (first | (with_reducible first | exact HB.out | apply below_alloc | apply pw_below_drewN | apply below_drew1 | refine below_set ?_ GE107.out) | exact HB.out)⟩
                  · rw [if_neg c23] at H
                    have c23b0 : decide ((wrap64 (512 - ((rd_T39 l0 x43_2).f1))) < ((rd_T39 l0 x43_2).f0)) = false := decide_eq_false c23
                    clear c23
                    have H' := Aside0.mk H
                    clear H
                    have p106 : 0 ≤ (x43_2 : Int) := of_decide_eq_true (by with_reducible assumption)
                    have q106 : x43_2 < (l0.length : Int) := of_decide_eq_true (by with_reducible assumption)
                    obtain ⟨ad106, e106, hx106_0, hx106_1, hx106_2⟩ := at_T39 HR0.out x43_2 p106 q106
                    cases e106
                    replace hx106_0 := (HB.out.cell (World.block_lt_of_cell? w _ hx106_0)).trans hx106_0
                    replace hx106_1 := (HB.out.cell (World.block_lt_of_cell? w _ hx106_1)).trans hx106_1
                    replace hx106_2 := (HB.out.cell (World.block_lt_of_cell? w _ hx106_2)).trans hx106_2
                    replace p106 := eq_true p106
                    replace q106 := eq_true q106
                    go_wp2_with (first | ((with_reducible refine gate_dst (N := 9) rfl ?_); refine box_event ?hg (N := 9) ?hd (cs := #[.int .i64 0, .int .i64 0, .int .i64 0]) (t := 39) ?hr ?_; (case hd => rfl); (case hg => rfl); (case hr => first | (go_simp; done) | (go_simp; rfl)); intro gb107 hg w26 hbox hb; have n0_ := Aside0.mk (below_step (by repeat with_reducible first | exact HB.out | apply below_alloc | apply pw_below_drewN | apply below_drew1) hb); have n1_ := Aside0.mk (hbox); have n2_ := Aside0.mk ((by rw [hg]; exact (below_size (by repeat with_reducible first | exact HB.out | apply below_alloc | apply pw_below_drewN | apply below_drew1)) : w.heap.size ≤ gb107)); have n3_ := Aside0.mk ((by rw [hg]; exact (below_size (by repeat with_reducible first | exact HB.out | apply below_alloc | apply pw_below_drewN | apply below_drew1)) : w.heap.size ≤ gb107)); clear HB; have HB := n0_; have BK107 := n1_; have GW107 := n2_; have GE107 := n3_; clear n0_ n1_ n2_ n3_; clear hb hbox hg; have hcz27_0 : w26.cell? ⟨gb107, 0, none⟩ = some (.int .i64 0) := (blk_cell BK107.out 0).trans rfl; have hcz27_1 : w26.cell? ⟨gb107, 1, none⟩ = some (.int .i64 0) := (blk_cell BK107.out 1).trans rfl; have hcz27_2 : w26.cell? ⟨gb107, 2, none⟩ = some (.int .i64 0) := (blk_cell BK107.out 2).trans rfl; have hfz27_0 := blk_frozen BK107.out 0; have hfz27_1 := blk_frozen BK107.out 1; have hfz27_2 := blk_frozen BK107.out 2))
                    go_roundg k2
                    case measure => have := HJ3.out; have := HK2.out; omega
                    case rel => exact ⟨(wrap64 (x43_2 + 1)), (by first | rfl | (simp; done) | (simp [*]; done)), H', ⟨by have := HJ3.out; have := HK2.out; omega⟩, ⟨by repeat (first | (with_reducible first | exact HB.out | apply below_alloc | apply pw_below_drewN | apply below_drew1 | refine below_set ?_ GE107.out) | exact HB.out)⟩⟩
              · rw [if_neg c19] at H
                exact absurd H (by simp)
            · rw [if_neg c18] at H
              exact absurd H (by simp)
          · rw [if_neg c17] at H
            have c17b0 : decide (x43_2 < (l0.length : Int)) = false := decide_eq_false c17
            clear c17
            have H' := Aside0.mk H
            clear H
            go_wp2
            go_loopg [10, 11, 65] k2 (fun kq v10 v11 v65 w' => ∃ (x10_3 : List (S38)) (x11_3 : Int) (x65_3 : Int), v11 = .int .i64 x11_3 ∧ v65 = .int .i64 x65_3 ∧ Aside0 (window_Holes.l1 kq x10_3 x11_3 (wrap64 (a1 + a2)) l0 (l0.length : Int) x65_3 = some (r1, r2)) ∧ Aside0 (kq ≤ k2) ∧ Aside0 (Kd.R k38 38 w' w.heap.size (fun _ => True) v10 x10_3) ∧ Aside0 (Below w.heap.size w w'))
            case atStart => exact ⟨(([] : List (S38))), (a1), (0), (by first | rfl | (simp; done) | (simp [*]; done)), (by first | rfl | (simp; done) | (simp [*]; done)), H', ⟨Nat.le_refl _⟩, ⟨by first | exact Kd.R_nil _ _ _ _ _ | exact Kd.N_nil _ _ _ _ _ | exact Kd.V_nil _ _ _ _ _ | exact Kd.Q_nil _ _ _ _ _ | exact Kd.S_nil _ _ _ _ _⟩, ⟨by repeat with_reducible first | exact HB.out | apply below_alloc | apply pw_below_drewN | apply below_drew1⟩⟩
            case round =>
              clear H'
              try clear c1
              try clear p1
              try clear q1
              try clear hx1
              try clear c2
              try clear p2
              try clear c5
              try clear c5b0
              try clear c5b1
              try clear p6
              try clear c7
              try clear c8
              try clear c8b0
              try clear c10
              try clear c10b0
              try clear p10
              try clear q10
              try clear hx10
              try clear c12
              try clear c12b0
              try clear c16
              try clear c17
              try clear c17b0
              try clear c18
              try clear c18b0
              try clear c19
              try clear c19b0
              try clear c20
              try clear c20b0
              try clear c23
              try clear c23b0
              try clear hcz22_0
              try clear hcz22_1
              try clear hcz22_2
              try clear hcz25_0
              try clear hcz25_1
              try clear hcz25_2
              try clear hcz27_0
              try clear hcz27_1
              try clear hcz27_2
              try clear hfz22_0
              try clear hfz22_1
              try clear hfz22_2
              try clear hfz25_0
              try clear hfz25_1
              try clear hfz25_2
              try clear hfz27_0
              try clear hfz27_1
              try clear hfz27_2
              try clear hx106_0
              try clear hx106_1
              try clear hx106_2
              try clear p106
              try clear p2
              try clear p6
              try clear q106
              obtain ⟨x10_3, x11_3, x65_3, rfl, rfl, HA, HK3, HO_10, HB⟩ := hrel
              cases gk with
              | zero => exact absurd HA.out (by simp [window_Holes.l1])
              | succ k3 =>
                have H := HA.out
                clear HA
                simp only [window_Holes.l1] at H
                by_cases c28 : x65_3 < (l0.length : Int)
                · rw [if_pos c28] at H
                  have c28b0 : decide (x65_3 < (l0.length : Int)) = true := decide_eq_true c28
                  clear c28
                  by_cases c29 : 0 ≤ x65_3
                  · rw [if_pos c29] at H
                    have c29b0 : decide (0 ≤ x65_3) = true := decide_eq_true c29
                    clear c29
                    by_cases c30 : x65_3 < (l0.length : Int)
                    · rw [if_pos c30] at H
                      have c30b0 : decide (x65_3 < (l0.length : Int)) = true := decide_eq_true c30
                      clear c30
                      by_cases c31 : ((rd_T39 l0 x65_3).f0) ≥ (wrap64 (a1 + a2))
                      · rw [if_pos c31] at H
                        have c31b0 : decide ((wrap64 (a1 + a2)) ≤ ((rd_T39 l0 x65_3).f0)) = true := decide_eq_true c31
                        clear c31
                        by_cases c32 : x11_3 < (wrap64 (a1 + a2))
                        · rw [if_pos c32] at H
                          have c32b0 : decide (x11_3 < (wrap64 (a1 + a2))) = true := decide_eq_true c32
                          clear c32
                          by_cases c33 : x10_3.length < 5864062014805
                          · rw [if_pos c33] at H
                            have LMc33 := Aside0.mk c33
                            clear c33
                            obtain ⟨y113, hy113⟩ : ∃ y_ : List (S38), y_ = (x10_3 ++ [(⟨x11_3, wrap64 ((wrap64 (a1 + a2)) - x11_3), (-1)⟩ : S38)]) := ⟨_, rfl⟩
                            replace H : (some (y113, 0)) = some (r1, r2) := by first | (rw [hy113]; with_reducible exact H) | (have H2_ := (Option.bind_some _ _).symm.trans H; rw [hy113]; with_reducible exact H2_) | (have H2_ := (Option.bind_some _ _).symm.trans H; with_reducible exact H2_) | with_reducible exact H | (rw [hy113]; exact H) | exact H
                            have Ny113 := Aside0.mk hy113
                            clear hy113
                            simp only [Option.some.injEq, Prod.mk.injEq] at H
                            obtain ⟨rfl, rfl⟩ := H
                            have p111 : 0 ≤ (x65_3 : Int) := of_decide_eq_true (by with_reducible assumption)
                            have q111 : x65_3 < (l0.length : Int) := of_decide_eq_true (by with_reducible assumption)
                            obtain ⟨ad111, e111, hx111_0, hx111_1, hx111_2⟩ := at_T39 HR0.out x65_3 p111 q111
                            cases e111
                            replace hx111_0 := (HB.out.cell (World.block_lt_of_cell? w _ hx111_0)).trans hx111_0
                            replace hx111_1 := (HB.out.cell (World.block_lt_of_cell? w _ hx111_1)).trans hx111_1
                            replace hx111_2 := (HB.out.cell (World.block_lt_of_cell? w _ hx111_2)).trans hx111_2
                            replace p111 := eq_true p111
                            replace q111 := eq_true q111
                            go_wp2_with (first | ((with_reducible refine gate_dst (N := 14) rfl ?_); refine box_event ?hg (N := 14) ?hd (cs := #[.int .i64 0, .int .i64 0, .int .i64 0]) (t := 39) ?hr ?_; (case hd => rfl); (case hg => rfl); (case hr => first | (go_simp; done) | (go_simp; rfl)); intro gb112 hg w34 hbox hb; have n0_ := Aside0.mk (Kd.R_below (by (with_reducible repeat (first | apply Kd.R_alloc | apply Kd.R_drewN | apply Kd.R_drew)); exact HO_10.out) hb); have n1_ := Aside0.mk (below_step (by repeat with_reducible first | exact HB.out | apply below_alloc | apply pw_below_drewN | apply below_drew1) hb); have n2_ := Aside0.mk (hbox); have n3_ := Aside0.mk ((by rw [hg]; exact (below_size (by repeat with_reducible first | exact HB.out | apply below_alloc | apply pw_below_drewN | apply below_drew1)) : w.heap.size ≤ gb112)); have n4_ := Aside0.mk ((by rw [hg]; exact (below_size (by repeat with_reducible first | exact HB.out | apply below_alloc | apply pw_below_drewN | apply below_drew1)) : w.heap.size ≤ gb112)); clear HO_10; clear HB; have HO_10 := n0_; have HB := n1_; have BK112 := n2_; have GW112 := n3_; have GE112 := n4_; clear n0_ n1_ n2_ n3_ n4_; clear hb hbox hg; have hcz35_0 : w34.cell? ⟨gb112, 0, none⟩ = some (.int .i64 0) := (blk_cell BK112.out 0).trans rfl; have hcz35_1 : w34.cell? ⟨gb112, 1, none⟩ = some (.int .i64 0) := (blk_cell BK112.out 1).trans rfl; have hcz35_2 : w34.cell? ⟨gb112, 2, none⟩ = some (.int .i64 0) := (blk_cell BK112.out 2).trans rfl; have hfz35_0 := blk_frozen BK112.out 0; have hfz35_1 := blk_frozen BK112.out 1; have hfz35_2 := blk_frozen BK112.out 2) | ((with_reducible refine gate_builtin (b := .append) (xs := #[.tmp 105, .tmp 111]) rfl ?_); at_builtin; refine Kd.R_append k38 (w0 := w) w.heap.size rfl (.tmp 105) (.tmp 111) 23 38 (.agg #[(.int .i64 0), (.int .i64 0), (.int .i64 0)]) 24 rfl Try.underlying23 info38 rfl (by decide) (by omega) u10 x10_3 (⟨x11_3, wrap64 ((wrap64 (a1 + a2)) - x11_3), (-1)⟩ : S38) [.int .i64 x11_3, .int .i64 (wrap64 ((wrap64 (a1 + a2)) - x11_3)), .int .i64 (-1)] (fun _ => True) (fun _ => False) rfl (by first | (go_simp; done) | (go_simp; rfl)) ?aP (fun _ hk => hk.elim) ?aF ?aO ?aB ?aS ?aL ?_; (case aP => exact k38_mkM _ _ _ (⟨x11_3, wrap64 ((wrap64 (a1 + a2)) - x11_3), (-1)⟩ : S38)); (case aB => exact (by repeat (first | (with_reducible first | exact HB.out | apply below_alloc | apply pw_below_drewN | apply below_drew1 | refine below_set ?_ GE112.out) | exact HB.out))); (case aF => exact (fun _ _ => trivial)); (case aO => exact (by (with_reducible repeat (first | apply Kd.R_alloc | apply Kd.R_drewN | apply Kd.R_drew)); exact Kd.R_mono (Kd.R_far (p := ⟨gb112, 2, none⟩) (Kd.R_far (p := ⟨gb112, 1, none⟩) (Kd.R_far (p := ⟨gb112, 0, none⟩) (Kd.R_types HO_10.out BK112.out (by decide)) (fun _ hk => hk.2) (.int .i64 ((rd_T39 l0 x65_3).f0))) (fun _ hk => hk.2) (.int .i64 ((rd_T39 l0 x65_3).f1))) (fun _ hk => hk.2) (.int .i64 ((rd_T39 l0 x65_3).f2))) (fun _ hk => trivial))); (case aS => exact (below_size (by repeat (first | (with_reducible first | exact HB.out | apply below_alloc | apply pw_below_drewN | apply below_drew1 | refine below_set ?_ GE112.out) | exact HB.out)))); (case aL => have := LMc33.out; omega); intro v114 w36 ho hb hg hat; rw [← Ny113.out] at ho; have n0_ := Aside0.mk (blk_grown (g := gb112) (o := .cells #[.int .i64 ((rd_T39 l0 x65_3).f0), .int .i64 ((rd_T39 l0 x65_3).f1), .int .i64 ((rd_T39 l0 x65_3).f2)] 39 (0, 0)) (by (with_reducible repeat (first | refine blk_drewN ?_ _ | refine blk_drew ?_ | refine blk_alloc ?_ _)); refine blk_put (cs := #[.int .i64 ((rd_T39 l0 x65_3).f0), .int .i64 ((rd_T39 l0 x65_3).f1), .int .i64 0]) ?_ 2 _ rfl; (with_reducible repeat (first | refine blk_drewN ?_ _ | refine blk_drew ?_ | refine blk_alloc ?_ _)); refine blk_put (cs := #[.int .i64 ((rd_T39 l0 x65_3).f0), .int .i64 0, .int .i64 0]) ?_ 1 _ rfl; (with_reducible repeat (first | refine blk_drewN ?_ _ | refine blk_drew ?_ | refine blk_alloc ?_ _)); refine blk_put (cs := #[.int .i64 0, .int .i64 0, .int .i64 0]) ?_ 0 _ rfl; (with_reducible repeat (first | refine blk_drewN ?_ _ | refine blk_drew ?_ | refine blk_alloc ?_ _)); exact BK112.out) hg (Kd.R_ne HO_10.out BK112.out (by decide))); have n1_ := Aside0.mk (hb); have n2_ := Aside0.mk (ho); clear BK112; clear HB; clear HO_10; have BK112 := n0_; have HB := n1_; have HO115 := n2_; clear n0_ n1_ n2_; clear ho hb hg hat))
                            go_ret2
                            exact ⟨_, by first | rfl | (simp [errW_none, errW_some] <;> rfl) | (simp [*, errW_none, errW_some] <;> rfl), by (with_reducible repeat (first | apply Kd.R_alloc | apply Kd.R_drewN | apply Kd.R_drew)); exact HO115.out, by repeat (first | (with_reducible first | exact HB.out | apply below_alloc | apply pw_below_drewN | apply below_drew1 | refine below_set ?_ GE112.out) | exact HB.out)⟩
                          · rw [if_neg c33] at H
                            exact absurd H (by simp)
                        · rw [if_neg c32] at H
                          have c32b0 : decide (x11_3 < (wrap64 (a1 + a2))) = false := decide_eq_false c32
                          clear c32
                          simp only [Option.some.injEq, Prod.mk.injEq] at H
                          obtain ⟨rfl, rfl⟩ := H
                          have p111 : 0 ≤ (x65_3 : Int) := of_decide_eq_true (by with_reducible assumption)
                          have q111 : x65_3 < (l0.length : Int) := of_decide_eq_true (by with_reducible assumption)
                          obtain ⟨ad111, e111, hx111_0, hx111_1, hx111_2⟩ := at_T39 HR0.out x65_3 p111 q111
                          cases e111
                          replace hx111_0 := (HB.out.cell (World.block_lt_of_cell? w _ hx111_0)).trans hx111_0
                          replace hx111_1 := (HB.out.cell (World.block_lt_of_cell? w _ hx111_1)).trans hx111_1
                          replace hx111_2 := (HB.out.cell (World.block_lt_of_cell? w _ hx111_2)).trans hx111_2
                          replace p111 := eq_true p111
                          replace q111 := eq_true q111
                          go_wp2_with (first | ((with_reducible refine gate_dst (N := 14) rfl ?_); refine box_event ?hg (N := 14) ?hd (cs := #[.int .i64 0, .int .i64 0, .int .i64 0]) (t := 39) ?hr ?_; (case hd => rfl); (case hg => rfl); (case hr => first | (go_simp; done) | (go_simp; rfl)); intro gb112 hg w37 hbox hb; have n0_ := Aside0.mk (Kd.R_below (by (with_reducible repeat (first | apply Kd.R_alloc | apply Kd.R_drewN | apply Kd.R_drew)); exact HO_10.out) hb); have n1_ := Aside0.mk (below_step (by repeat with_reducible first | exact HB.out | apply below_alloc | apply pw_below_drewN | apply below_drew1) hb); have n2_ := Aside0.mk (hbox); have n3_ := Aside0.mk ((by rw [hg]; exact (below_size (by repeat with_reducible first | exact HB.out | apply below_alloc | apply pw_below_drewN | apply below_drew1)) : w.heap.size ≤ gb112)); have n4_ := Aside0.mk ((by rw [hg]; exact (below_size (by repeat with_reducible first | exact HB.out | apply below_alloc | apply pw_below_drewN | apply below_drew1)) : w.heap.size ≤ gb112)); clear HO_10; clear HB; have HO_10 := n0_; have HB := n1_; have BK112 := n2_; have GW112 := n3_; have GE112 := n4_; clear n0_ n1_ n2_ n3_ n4_; clear hb hbox hg; have hcz38_0 : w37.cell? ⟨gb112, 0, none⟩ = some (.int .i64 0) := (blk_cell BK112.out 0).trans rfl; have hcz38_1 : w37.cell? ⟨gb112, 1, none⟩ = some (.int .i64 0) := (blk_cell BK112.out 1).trans rfl; have hcz38_2 : w37.cell? ⟨gb112, 2, none⟩ = some (.int .i64 0) := (blk_cell BK112.out 2).trans rfl; have hfz38_0 := blk_frozen BK112.out 0; have hfz38_1 := blk_frozen BK112.out 1; have hfz38_2 := blk_frozen BK112.out 2))
                          go_ret2
                          exact ⟨_, by first | rfl | (simp [errW_none, errW_some] <;> rfl) | (simp [*, errW_none, errW_some] <;> rfl), by (with_reducible repeat (first | apply Kd.R_alloc | apply Kd.R_drewN | apply Kd.R_drew)); exact Kd.R_mono (Kd.R_far (p := ⟨gb112, 2, none⟩) (Kd.R_far (p := ⟨gb112, 1, none⟩) (Kd.R_far (p := ⟨gb112, 0, none⟩) (Kd.R_types HO_10.out BK112.out (by decide)) (fun _ hk => hk.2) (.int .i64 ((rd_T39 l0 x65_3).f0))) (fun _ hk => hk.2) (.int .i64 ((rd_T39 l0 x65_3).f1))) (fun _ hk => hk.2) (.int .i64 ((rd_T39 l0 x65_3).f2))) (fun _ hk => trivial), by repeat (first | (with_reducible first | exact HB.out | apply below_alloc | apply pw_below_drewN | apply below_drew1 | refine below_set ?_ GE112.out) | exact HB.out)⟩
                      · rw [if_neg c31] at H
                        have c31b0 : decide ((wrap64 (a1 + a2)) ≤ ((rd_T39 l0 x65_3).f0)) = false := decide_eq_false c31
                        clear c31
                        by_cases c39 : ((rd_T39 l0 x65_3).f0) > x11_3
                        · rw [if_pos c39] at H
                          have c39b0 : decide (x11_3 < ((rd_T39 l0 x65_3).f0)) = true := decide_eq_true c39
                          clear c39
                          by_cases c40 : x10_3.length < 5864062014805
                          · rw [if_pos c40] at H
                            have LMc40 := Aside0.mk c40
                            clear c40
                            obtain ⟨y116, hy116⟩ : ∃ y_ : List (S38), y_ = (x10_3 ++ [(⟨x11_3, wrap64 (((rd_T39 l0 x65_3).f0) - x11_3), (-1)⟩ : S38)]) := ⟨_, rfl⟩
                            replace H : (if ((rd_T39 l0 x65_3).f1) ≥ (wrap64 ((wrap64 (a1 + a2)) - ((rd_T39 l0 x65_3).f0))) then (some (y116, 0)) else (window_Holes.l1 k3 y116 (mx x11_3 (wrap64 (((rd_T39 l0 x65_3).f0) + ((rd_T39 l0 x65_3).f1)))) (wrap64 (a1 + a2)) l0 (l0.length : Int) (wrap64 (x65_3 + 1)))) = some (r1, r2) := by first | (rw [hy116]; with_reducible exact H) | (have H2_ := (Option.bind_some _ _).symm.trans H; rw [hy116]; with_reducible exact H2_) | (have H2_ := (Option.bind_some _ _).symm.trans H; with_reducible exact H2_) | with_reducible exact H | (rw [hy116]; exact H) | exact H
                            have Ny116 := Aside0.mk hy116
                            clear hy116
                            by_cases c41 : ((rd_T39 l0 x65_3).f1) ≥ (wrap64 ((wrap64 (a1 + a2)) - ((rd_T39 l0 x65_3).f0)))
                            · rw [if_pos c41] at H
                              have c41b0 : decide ((wrap64 ((wrap64 (a1 + a2)) - ((rd_T39 l0 x65_3).f0))) ≤ ((rd_T39 l0 x65_3).f1)) = true := decide_eq_true c41
                              clear c41
                              simp only [Option.some.injEq, Prod.mk.injEq] at H
                              obtain ⟨rfl, rfl⟩ := H
                              have p111 : 0 ≤ (x65_3 : Int) := of_decide_eq_true (by with_reducible assumption)
                              have q111 : x65_3 < (l0.length : Int) := of_decide_eq_true (by with_reducible assumption)
                              obtain ⟨ad111, e111, hx111_0, hx111_1, hx111_2⟩ := at_T39 HR0.out x65_3 p111 q111
                              cases e111
                              replace hx111_0 := (HB.out.cell (World.block_lt_of_cell? w _ hx111_0)).trans hx111_0
                              replace hx111_1 := (HB.out.cell (World.block_lt_of_cell? w _ hx111_1)).trans hx111_1
                              replace hx111_2 := (HB.out.cell (World.block_lt_of_cell? w _ hx111_2)).trans hx111_2
                              replace p111 := eq_true p111
                              replace q111 := eq_true q111
                              go_wp2_with (first | ((with_reducible refine gate_dst (N := 14) rfl ?_); refine box_event ?hg (N := 14) ?hd (cs := #[.int .i64 0, .int .i64 0, .int .i64 0]) (t := 39) ?hr ?_; (case hd => rfl); (case hg => rfl); (case hr => first | (go_simp; done) | (go_simp; rfl)); intro gb112 hg w42 hbox hb; have n0_ := Aside0.mk (Kd.R_below (by (with_reducible repeat (first | apply Kd.R_alloc | apply Kd.R_drewN | apply Kd.R_drew)); exact HO_10.out) hb); have n1_ := Aside0.mk (below_step (by repeat with_reducible first | exact HB.out | apply below_alloc | apply pw_below_drewN | apply below_drew1) hb); have n2_ := Aside0.mk (hbox); have n3_ := Aside0.mk ((by rw [hg]; exact (below_size (by repeat with_reducible first | exact HB.out | apply below_alloc | apply pw_below_drewN | apply below_drew1)) : w.heap.size ≤ gb112)); have n4_ := Aside0.mk ((by rw [hg]; exact (below_size (by repeat with_reducible first | exact HB.out | apply below_alloc | apply pw_below_drewN | apply below_drew1)) : w.heap.size ≤ gb112)); clear HO_10; clear HB; have HO_10 := n0_; have HB := n1_; have BK112 := n2_; have GW112 := n3_; have GE112 := n4_; clear n0_ n1_ n2_ n3_ n4_; clear hb hbox hg; have hcz43_0 : w42.cell? ⟨gb112, 0, none⟩ = some (.int .i64 0) := (blk_cell BK112.out 0).trans rfl; have hcz43_1 : w42.cell? ⟨gb112, 1, none⟩ = some (.int .i64 0) := (blk_cell BK112.out 1).trans rfl; have hcz43_2 : w42.cell? ⟨gb112, 2, none⟩ = some (.int .i64 0) := (blk_cell BK112.out 2).trans rfl; have hfz43_0 := blk_frozen BK112.out 0; have hfz43_1 := blk_frozen BK112.out 1; have hfz43_2 := blk_frozen BK112.out 2) | ((with_reducible refine gate_builtin (b := .append) (xs := #[.tmp 77, .tmp 84]) rfl ?_); at_builtin; refine Kd.R_append k38 (w0 := w) w.heap.size rfl (.tmp 77) (.tmp 84) 23 38 (.agg #[(.int .i64 0), (.int .i64 0), (.int .i64 0)]) 24 rfl Try.underlying23 info38 rfl (by decide) (by omega) u10 x10_3 (⟨x11_3, wrap64 (((rd_T39 l0 x65_3).f0) - x11_3), (-1)⟩ : S38) [.int .i64 x11_3, .int .i64 (wrap64 (((rd_T39 l0 x65_3).f0) - x11_3)), .int .i64 (-1)] (fun _ => True) (fun _ => False) rfl (by first | (go_simp; done) | (go_simp; rfl)) ?aP (fun _ hk => hk.elim) ?aF ?aO ?aB ?aS ?aL ?_; (case aP => exact k38_mkM _ _ _ (⟨x11_3, wrap64 (((rd_T39 l0 x65_3).f0) - x11_3), (-1)⟩ : S38)); (case aB => exact (by repeat (first | (with_reducible first | exact HB.out | apply below_alloc | apply pw_below_drewN | apply below_drew1 | refine below_set ?_ GE112.out) | exact HB.out))); (case aF => exact (fun _ _ => trivial)); (case aO => exact (by (with_reducible repeat (first | apply Kd.R_alloc | apply Kd.R_drewN | apply Kd.R_drew)); exact Kd.R_mono (Kd.R_far (p := ⟨gb112, 2, none⟩) (Kd.R_far (p := ⟨gb112, 1, none⟩) (Kd.R_far (p := ⟨gb112, 0, none⟩) (Kd.R_types HO_10.out BK112.out (by decide)) (fun _ hk => hk.2) (.int .i64 ((rd_T39 l0 x65_3).f0))) (fun _ hk => hk.2) (.int .i64 ((rd_T39 l0 x65_3).f1))) (fun _ hk => hk.2) (.int .i64 ((rd_T39 l0 x65_3).f2))) (fun _ hk => trivial))); (case aS => exact (below_size (by repeat (first | (with_reducible first | exact HB.out | apply below_alloc | apply pw_below_drewN | apply below_drew1 | refine below_set ?_ GE112.out) | exact HB.out)))); (case aL => have := LMc40.out; omega); intro v117 w44 ho hb hg hat; rw [← Ny116.out] at ho; have n0_ := Aside0.mk (blk_grown (g := gb112) (o := .cells #[.int .i64 ((rd_T39 l0 x65_3).f0), .int .i64 ((rd_T39 l0 x65_3).f1), .int .i64 ((rd_T39 l0 x65_3).f2)] 39 (0, 0)) (by (with_reducible repeat (first | refine blk_drewN ?_ _ | refine blk_drew ?_ | refine blk_alloc ?_ _)); refine blk_put (cs := #[.int .i64 ((rd_T39 l0 x65_3).f0), .int .i64 ((rd_T39 l0 x65_3).f1), .int .i64 0]) ?_ 2 _ rfl; (with_reducible repeat (first | refine blk_drewN ?_ _ | refine blk_drew ?_ | refine blk_alloc ?_ _)); refine blk_put (cs := #[.int .i64 ((rd_T39 l0 x65_3).f0), .int .i64 0, .int .i64 0]) ?_ 1 _ rfl; (with_reducible repeat (first | refine blk_drewN ?_ _ | refine blk_drew ?_ | refine blk_alloc ?_ _)); refine blk_put (cs := #[.int .i64 0, .int .i64 0, .int .i64 0]) ?_ 0 _ rfl; (with_reducible repeat (first | refine blk_drewN ?_ _ | refine blk_drew ?_ | refine blk_alloc ?_ _)); exact BK112.out) hg (Kd.R_ne HO_10.out BK112.out (by decide))); have n1_ := Aside0.mk (hb); have n2_ := Aside0.mk (ho); clear BK112; clear HB; clear HO_10; have BK112 := n0_; have HB := n1_; have HO118 := n2_; clear n0_ n1_ n2_; clear ho hb hg hat; have hcz45_0 : w44.cell? ⟨gb112, 0, none⟩ = some (.int .i64 ((rd_T39 l0 x65_3).f0)) := (blk_cell BK112.out 0).trans rfl; have hcz45_1 : w44.cell? ⟨gb112, 1, none⟩ = some (.int .i64 ((rd_T39 l0 x65_3).f1)) := (blk_cell BK112.out 1).trans rfl; have hcz45_2 : w44.cell? ⟨gb112, 2, none⟩ = some (.int .i64 ((rd_T39 l0 x65_3).f2)) := (blk_cell BK112.out 2).trans rfl; have hfz45_0 := blk_frozen BK112.out 0; have hfz45_1 := blk_frozen BK112.out 1; have hfz45_2 := blk_frozen BK112.out 2))
                              go_ret2
                              exact ⟨_, by first | rfl | (simp [errW_none, errW_some] <;> rfl) | (simp [*, errW_none, errW_some] <;> rfl), by (with_reducible repeat (first | apply Kd.R_alloc | apply Kd.R_drewN | apply Kd.R_drew)); exact HO118.out, by repeat (first | (with_reducible first | exact HB.out | apply below_alloc | apply pw_below_drewN | apply below_drew1 | refine below_set ?_ GE112.out) | exact HB.out)⟩
                            · rw [if_neg c41] at H
                              have c41b0 : decide ((wrap64 ((wrap64 (a1 + a2)) - ((rd_T39 l0 x65_3).f0))) ≤ ((rd_T39 l0 x65_3).f1)) = false := decide_eq_false c41
                              clear c41
                              obtain ⟨ji46, hji46⟩ : ∃ j_ : Int, (mx x11_3 (wrap64 (((rd_T39 l0 x65_3).f0) + ((rd_T39 l0 x65_3).f1)))) = j_ := ⟨_, rfl⟩
                              replace H : (window_Holes.l1 k3 y116 ji46 (wrap64 (a1 + a2)) l0 (l0.length : Int) (wrap64 (x65_3 + 1))) = some (r1, r2) := by first | (rw [hji46] at H; exact H) | (simp only [hji46] at H ⊢; exact H)
                              have hji46_ : (if x11_3 < (wrap64 (((rd_T39 l0 x65_3).f0) + ((rd_T39 l0 x65_3).f1))) then (wrap64 (((rd_T39 l0 x65_3).f0) + ((rd_T39 l0 x65_3).f1))) else x11_3) = ji46 := hji46
                              have H' := Aside0.mk H
                              clear H
                              have p111 : 0 ≤ (x65_3 : Int) := of_decide_eq_true (by with_reducible assumption)
                              have q111 : x65_3 < (l0.length : Int) := of_decide_eq_true (by with_reducible assumption)
                              obtain ⟨ad111, e111, hx111_0, hx111_1, hx111_2⟩ := at_T39 HR0.out x65_3 p111 q111
                              cases e111
                              replace hx111_0 := (HB.out.cell (World.block_lt_of_cell? w _ hx111_0)).trans hx111_0
                              replace hx111_1 := (HB.out.cell (World.block_lt_of_cell? w _ hx111_1)).trans hx111_1
                              replace hx111_2 := (HB.out.cell (World.block_lt_of_cell? w _ hx111_2)).trans hx111_2
                              replace p111 := eq_true p111
                              replace q111 := eq_true q111
                              go_wp2_with (first | ((with_reducible refine gate_dst (N := 14) rfl ?_); refine box_event ?hg (N := 14) ?hd (cs := #[.int .i64 0, .int .i64 0, .int .i64 0]) (t := 39) ?hr ?_; (case hd => rfl); (case hg => rfl); (case hr => first | (go_simp; done) | (go_simp; rfl)); intro gb112 hg w47 hbox hb; have n0_ := Aside0.mk (Kd.R_below (by (with_reducible repeat (first | apply Kd.R_alloc | apply Kd.R_drewN | apply Kd.R_drew)); exact HO_10.out) hb); have n1_ := Aside0.mk (below_step (by repeat with_reducible first | exact HB.out | apply below_alloc | apply pw_below_drewN | apply below_drew1) hb); have n2_ := Aside0.mk (hbox); have n3_ := Aside0.mk ((by rw [hg]; exact (below_size (by repeat with_reducible first | exact HB.out | apply below_alloc | apply pw_below_drewN | apply below_drew1)) : w.heap.size ≤ gb112)); have n4_ := Aside0.mk ((by rw [hg]; exact (below_size (by repeat with_reducible first | exact HB.out | apply below_alloc | apply pw_below_drewN | apply below_drew1)) : w.heap.size ≤ gb112)); clear HO_10; clear HB; have HO_10 := n0_; have HB := n1_; have BK112 := n2_; have GW112 := n3_; have GE112 := n4_; clear n0_ n1_ n2_ n3_ n4_; clear hb hbox hg; have hcz48_0 : w47.cell? ⟨gb112, 0, none⟩ = some (.int .i64 0) := (blk_cell BK112.out 0).trans rfl; have hcz48_1 : w47.cell? ⟨gb112, 1, none⟩ = some (.int .i64 0) := (blk_cell BK112.out 1).trans rfl; have hcz48_2 : w47.cell? ⟨gb112, 2, none⟩ = some (.int .i64 0) := (blk_cell BK112.out 2).trans rfl; have hfz48_0 := blk_frozen BK112.out 0; have hfz48_1 := blk_frozen BK112.out 1; have hfz48_2 := blk_frozen BK112.out 2) | ((with_reducible refine gate_builtin (b := .append) (xs := #[.tmp 77, .tmp 84]) rfl ?_); at_builtin; refine Kd.R_append k38 (w0 := w) w.heap.size rfl (.tmp 77) (.tmp 84) 23 38 (.agg #[(.int .i64 0), (.int .i64 0), (.int .i64 0)]) 24 rfl Try.underlying23 info38 rfl (by decide) (by omega) u10 x10_3 (⟨x11_3, wrap64 (((rd_T39 l0 x65_3).f0) - x11_3), (-1)⟩ : S38) [.int .i64 x11_3, .int .i64 (wrap64 (((rd_T39 l0 x65_3).f0) - x11_3)), .int .i64 (-1)] (fun _ => True) (fun _ => False) rfl (by first | (go_simp; done) | (go_simp; rfl)) ?aP (fun _ hk => hk.elim) ?aF ?aO ?aB ?aS ?aL ?_; (case aP => exact k38_mkM _ _ _ (⟨x11_3, wrap64 (((rd_T39 l0 x65_3).f0) - x11_3), (-1)⟩ : S38)); (case aB => exact (by repeat (first | (with_reducible first | exact HB.out | apply below_alloc | apply pw_below_drewN | apply below_drew1 | refine below_set ?_ GE112.out) | exact HB.out))); (case aF => exact (fun _ _ => trivial)); (case aO => exact (by (with_reducible repeat (first | apply Kd.R_alloc | apply Kd.R_drewN | apply Kd.R_drew)); exact Kd.R_mono (Kd.R_far (p := ⟨gb112, 2, none⟩) (Kd.R_far (p := ⟨gb112, 1, none⟩) (Kd.R_far (p := ⟨gb112, 0, none⟩) (Kd.R_types HO_10.out BK112.out (by decide)) (fun _ hk => hk.2) (.int .i64 ((rd_T39 l0 x65_3).f0))) (fun _ hk => hk.2) (.int .i64 ((rd_T39 l0 x65_3).f1))) (fun _ hk => hk.2) (.int .i64 ((rd_T39 l0 x65_3).f2))) (fun _ hk => trivial))); (case aS => exact (below_size (by repeat (first | (with_reducible first | exact HB.out | apply below_alloc | apply pw_below_drewN | apply below_drew1 | refine below_set ?_ GE112.out) | exact HB.out)))); (case aL => have := LMc40.out; omega); intro v117 w49 ho hb hg hat; rw [← Ny116.out] at ho; have n0_ := Aside0.mk (blk_grown (g := gb112) (o := .cells #[.int .i64 ((rd_T39 l0 x65_3).f0), .int .i64 ((rd_T39 l0 x65_3).f1), .int .i64 ((rd_T39 l0 x65_3).f2)] 39 (0, 0)) (by (with_reducible repeat (first | refine blk_drewN ?_ _ | refine blk_drew ?_ | refine blk_alloc ?_ _)); refine blk_put (cs := #[.int .i64 ((rd_T39 l0 x65_3).f0), .int .i64 ((rd_T39 l0 x65_3).f1), .int .i64 0]) ?_ 2 _ rfl; (with_reducible repeat (first | refine blk_drewN ?_ _ | refine blk_drew ?_ | refine blk_alloc ?_ _)); refine blk_put (cs := #[.int .i64 ((rd_T39 l0 x65_3).f0), .int .i64 0, .int .i64 0]) ?_ 1 _ rfl; (with_reducible repeat (first | refine blk_drewN ?_ _ | refine blk_drew ?_ | refine blk_alloc ?_ _)); refine blk_put (cs := #[.int .i64 0, .int .i64 0, .int .i64 0]) ?_ 0 _ rfl; (with_reducible repeat (first | refine blk_drewN ?_ _ | refine blk_drew ?_ | refine blk_alloc ?_ _)); exact BK112.out) hg (Kd.R_ne HO_10.out BK112.out (by decide))); have n1_ := Aside0.mk (hb); have n2_ := Aside0.mk (ho); clear BK112; clear HB; clear HO_10; have BK112 := n0_; have HB := n1_; have HO118 := n2_; clear n0_ n1_ n2_; clear ho hb hg hat; have hcz50_0 : w49.cell? ⟨gb112, 0, none⟩ = some (.int .i64 ((rd_T39 l0 x65_3).f0)) := (blk_cell BK112.out 0).trans rfl; have hcz50_1 : w49.cell? ⟨gb112, 1, none⟩ = some (.int .i64 ((rd_T39 l0 x65_3).f1)) := (blk_cell BK112.out 1).trans rfl; have hcz50_2 : w49.cell? ⟨gb112, 2, none⟩ = some (.int .i64 ((rd_T39 l0 x65_3).f2)) := (blk_cell BK112.out 2).trans rfl; have hfz50_0 := blk_frozen BK112.out 0; have hfz50_1 := blk_frozen BK112.out 1; have hfz50_2 := blk_frozen BK112.out 2))
                              go_roundg k3
                              case measure => have := HJ3.out; have := HK2.out; have := HK3.out; omega
                              case rel => exact ⟨(y116), (ji46), (wrap64 (x65_3 + 1)), (by first | rfl | (simp; done) | (simp only [← hji46] <;> (first | rfl | simp)) | (simp [*]; done)), (by first | rfl | (simp; done) | (simp [*]; done)), H', ⟨by have := HJ3.out; have := HK2.out; have := HK3.out; omega⟩, ⟨by (with_reducible repeat (first | apply Kd.R_alloc | apply Kd.R_drewN | apply Kd.R_drew)); exact HO118.out⟩, ⟨by repeat (first | (with_reducible first | exact HB.out | apply below_alloc | apply pw_below_drewN | apply below_drew1 | refine below_set ?_ GE112.out) | exact HB.out)⟩⟩
                          · rw [if_neg c40] at H
                            exact absurd H (by simp)
                        · rw [if_neg c39] at H
                          have c39b0 : decide (x11_3 < ((rd_T39 l0 x65_3).f0)) = false := decide_eq_false c39
                          clear c39
                          by_cases c51 : ((rd_T39 l0 x65_3).f1) ≥ (wrap64 ((wrap64 (a1 + a2)) - ((rd_T39 l0 x65_3).f0)))
                          · rw [if_pos c51] at H
                            have c51b0 : decide ((wrap64 ((wrap64 (a1 + a2)) - ((rd_T39 l0 x65_3).f0))) ≤ ((rd_T39 l0 x65_3).f1)) = true := decide_eq_true c51
                            clear c51
                            simp only [Option.some.injEq, Prod.mk.injEq] at H
                            obtain ⟨rfl, rfl⟩ := H
                            have p111 : 0 ≤ (x65_3 : Int) := of_decide_eq_true (by with_reducible assumption)
                            have q111 : x65_3 < (l0.length : Int) := of_decide_eq_true (by with_reducible assumption)
                            obtain ⟨ad111, e111, hx111_0, hx111_1, hx111_2⟩ := at_T39 HR0.out x65_3 p111 q111
                            cases e111
                            replace hx111_0 := (HB.out.cell (World.block_lt_of_cell? w _ hx111_0)).trans hx111_0
                            replace hx111_1 := (HB.out.cell (World.block_lt_of_cell? w _ hx111_1)).trans hx111_1
                            replace hx111_2 := (HB.out.cell (World.block_lt_of_cell? w _ hx111_2)).trans hx111_2
                            replace p111 := eq_true p111
                            replace q111 := eq_true q111
                            go_wp2_with (first | ((with_reducible refine gate_dst (N := 14) rfl ?_); refine box_event ?hg (N := 14) ?hd (cs := #[.int .i64 0, .int .i64 0, .int .i64 0]) (t := 39) ?hr ?_; (case hd => rfl); (case hg => rfl); (case hr => first | (go_simp; done) | (go_simp; rfl)); intro gb112 hg w52 hbox hb; have n0_ := Aside0.mk (Kd.R_below (by (with_reducible repeat (first | apply Kd.R_alloc | apply Kd.R_drewN | apply Kd.R_drew)); exact HO_10.out) hb); have n1_ := Aside0.mk (below_step (by repeat with_reducible first | exact HB.out | apply below_alloc | apply pw_below_drewN | apply below_drew1) hb); have n2_ := Aside0.mk (hbox); have n3_ := Aside0.mk ((by rw [hg]; exact (below_size (by repeat with_reducible first | exact HB.out | apply below_alloc | apply pw_below_drewN | apply below_drew1)) : w.heap.size ≤ gb112)); have n4_ := Aside0.mk ((by rw [hg]; exact (below_size (by repeat with_reducible first | exact HB.out | apply below_alloc | apply pw_below_drewN | apply below_drew1)) : w.heap.size ≤ gb112)); clear HO_10; clear HB; have HO_10 := n0_; have HB := n1_; have BK112 := n2_; have GW112 := n3_; have GE112 := n4_; clear n0_ n1_ n2_ n3_ n4_; clear hb hbox hg; have hcz53_0 : w52.cell? ⟨gb112, 0, none⟩ = some (.int .i64 0) := (blk_cell BK112.out 0).trans rfl; have hcz53_1 : w52.cell? ⟨gb112, 1, none⟩ = some (.int .i64 0) := (blk_cell BK112.out 1).trans rfl; have hcz53_2 : w52.cell? ⟨gb112, 2, none⟩ = some (.int .i64 0) := (blk_cell BK112.out 2).trans rfl; have hfz53_0 := blk_frozen BK112.out 0; have hfz53_1 := blk_frozen BK112.out 1; have hfz53_2 := blk_frozen BK112.out 2))
                            go_ret2
                            exact ⟨_, by first | rfl | (simp [errW_none, errW_some] <;> rfl) | (simp [*, errW_none, errW_some] <;> rfl), by (with_reducible repeat (first | apply Kd.R_alloc | apply Kd.R_drewN | apply Kd.R_drew)); exact Kd.R_mono (Kd.R_far (p := ⟨gb112, 2, none⟩) (Kd.R_far (p := ⟨gb112, 1, none⟩) (Kd.R_far (p := ⟨gb112, 0, none⟩) (Kd.R_types HO_10.out BK112.out (by decide)) (fun _ hk => hk.2) (.int .i64 ((rd_T39 l0 x65_3).f0))) (fun _ hk => hk.2) (.int .i64 ((rd_T39 l0 x65_3).f1))) (fun _ hk => hk.2) (.int .i64 ((rd_T39 l0 x65_3).f2))) (fun _ hk => trivial), by repeat (first | (with_reducible first | exact HB.out | apply below_alloc | apply pw_below_drewN | apply below_drew1 | refine below_set ?_ GE112.out) | exact HB.out)⟩
                          · rw [if_neg c51] at H
                            have c51b0 : decide ((wrap64 ((wrap64 (a1 + a2)) - ((rd_T39 l0 x65_3).f0))) ≤ ((rd_T39 l0 x65_3).f1)) = false := decide_eq_false c51
                            clear c51
                            obtain ⟨ji54, hji54⟩ : ∃ j_ : Int, (mx x11_3 (wrap64 (((rd_T39 l0 x65_3).f0) + ((rd_T39 l0 x65_3).f1)))) = j_ := ⟨_, rfl⟩
                            replace H : (window_Holes.l1 k3 x10_3 ji54 (wrap64 (a1 + a2)) l0 (l0.length : Int) (wrap64 (x65_3 + 1))) = some (r1, r2) := by first | (rw [hji54] at H; exact H) | (simp only [hji54] at H ⊢; exact H)
                            have hji54_ : (if x11_3 < (wrap64 (((rd_T39 l0 x65_3).f0) + ((rd_T39 l0 x65_3).f1))) then (wrap64 (((rd_T39 l0 x65_3).f0) + ((rd_T39 l0 x65_3).f1))) else x11_3) = ji54 := hji54
                            have H' := Aside0.mk H
                            clear H
                            have p111 : 0 ≤ (x65_3 : Int) := of_decide_eq_true (by with_reducible assumption)
                            have q111 : x65_3 < (l0.length : Int) := of_decide_eq_true (by with_reducible assumption)
                            obtain ⟨ad111, e111, hx111_0, hx111_1, hx111_2⟩ := at_T39 HR0.out x65_3 p111 q111
                            cases e111
                            replace hx111_0 := (HB.out.cell (World.block_lt_of_cell? w _ hx111_0)).trans hx111_0
                            replace hx111_1 := (HB.out.cell (World.block_lt_of_cell? w _ hx111_1)).trans hx111_1
                            replace hx111_2 := (HB.out.cell (World.block_lt_of_cell? w _ hx111_2)).trans hx111_2
                            replace p111 := eq_true p111
                            replace q111 := eq_true q111
                            go_wp2_with (first | ((with_reducible refine gate_dst (N := 14) rfl ?_); refine box_event ?hg (N := 14) ?hd (cs := #[.int .i64 0, .int .i64 0, .int .i64 0]) (t := 39) ?hr ?_; (case hd => rfl); (case hg => rfl); (case hr => first | (go_simp; done) | (go_simp; rfl)); intro gb112 hg w55 hbox hb; have n0_ := Aside0.mk (Kd.R_below (by (with_reducible repeat (first | apply Kd.R_alloc | apply Kd.R_drewN | apply Kd.R_drew)); exact HO_10.out) hb); have n1_ := Aside0.mk (below_step (by repeat with_reducible first | exact HB.out | apply below_alloc | apply pw_below_drewN | apply below_drew1) hb); have n2_ := Aside0.mk (hbox); have n3_ := Aside0.mk ((by rw [hg]; exact (below_size (by repeat with_reducible first | exact HB.out | apply below_alloc | apply pw_below_drewN | apply below_drew1)) : w.heap.size ≤ gb112)); have n4_ := Aside0.mk ((by rw [hg]; exact (below_size (by repeat with_reducible first | exact HB.out | apply below_alloc | apply pw_below_drewN | apply below_drew1)) : w.heap.size ≤ gb112)); clear HO_10; clear HB; have HO_10 := n0_; have HB := n1_; have BK112 := n2_; have GW112 := n3_; have GE112 := n4_; clear n0_ n1_ n2_ n3_ n4_; clear hb hbox hg; have hcz56_0 : w55.cell? ⟨gb112, 0, none⟩ = some (.int .i64 0) := (blk_cell BK112.out 0).trans rfl; have hcz56_1 : w55.cell? ⟨gb112, 1, none⟩ = some (.int .i64 0) := (blk_cell BK112.out 1).trans rfl; have hcz56_2 : w55.cell? ⟨gb112, 2, none⟩ = some (.int .i64 0) := (blk_cell BK112.out 2).trans rfl; have hfz56_0 := blk_frozen BK112.out 0; have hfz56_1 := blk_frozen BK112.out 1; have hfz56_2 := blk_frozen BK112.out 2))
                            go_roundg k3
                            case measure => have := HJ3.out; have := HK2.out; have := HK3.out; omega
                            case rel => exact ⟨(x10_3), (ji54), (wrap64 (x65_3 + 1)), (by first | rfl | (simp; done) | (simp only [← hji54] <;> (first | rfl | simp)) | (simp [*]; done)), (by first | rfl | (simp; done) | (simp [*]; done)), H', ⟨by have := HJ3.out; have := HK2.out; have := HK3.out; omega⟩, ⟨by (with_reducible repeat (first | apply Kd.R_alloc | apply Kd.R_drewN | apply Kd.R_drew)); exact Kd.R_mono (Kd.R_far (p := ⟨gb112, 2, none⟩) (Kd.R_far (p := ⟨gb112, 1, none⟩) (Kd.R_far (p := ⟨gb112, 0, none⟩) (Kd.R_types HO_10.out BK112.out (by decide)) (fun _ hk => hk.2) (.int .i64 ((rd_T39 l0 x65_3).f0))) (fun _ hk => hk.2) (.int .i64 ((rd_T39 l0 x65_3).f1))) (fun _ hk => hk.2) (.int .i64 ((rd_T39 l0 x65_3).f2))) (fun _ hk => trivial)⟩, ⟨by repeat (first | (with_reducible first | exact HB.out | apply below_alloc | apply pw_below_drewN | apply below_drew1 | refine below_set ?_ GE112.out) | exact HB.out)⟩⟩
                    · rw [if_neg c30] at H
                      exact absurd H (by simp)
                  · rw [if_neg c29] at H
                    exact absurd H (by simp)
                · rw [if_neg c28] at H
                  have c28b0 : decide (x65_3 < (l0.length : Int)) = false := decide_eq_false c28
                  clear c28
                  by_cases c57 : x11_3 < (wrap64 (a1 + a2))
                  · rw [if_pos c57] at H
                    have c57b0 : decide (x11_3 < (wrap64 (a1 + a2))) = true := decide_eq_true c57
                    clear c57
                    by_cases c58 : x10_3.length < 5864062014805
                    · rw [if_pos c58] at H
                      have LMc58 := Aside0.mk c58
                      clear c58
                      obtain ⟨y108, hy108⟩ : ∃ y_ : List (S38), y_ = (x10_3 ++ [(⟨x11_3, wrap64 ((wrap64 (a1 + a2)) - x11_3), (-1)⟩ : S38)]) := ⟨_, rfl⟩
                      replace H : (some (y108, 0)) = some (r1, r2) := by first | (rw [hy108]; with_reducible exact H) | (have H2_ := (Option.bind_some _ _).symm.trans H; rw [hy108]; with_reducible exact H2_) | (have H2_ := (Option.bind_some _ _).symm.trans H; with_reducible exact H2_) | with_reducible exact H | (rw [hy108]; exact H) | exact H
                      have Ny108 := Aside0.mk hy108
                      clear hy108
                      simp only [Option.some.injEq, Prod.mk.injEq] at H
                      obtain ⟨rfl, rfl⟩ := H
                      go_wp2_with (first | ((with_reducible refine gate_builtin (b := .append) (xs := #[.tmp 105, .tmp 111]) rfl ?_); at_builtin; refine Kd.R_append k38 (w0 := w) w.heap.size rfl (.tmp 105) (.tmp 111) 23 38 (.agg #[(.int .i64 0), (.int .i64 0), (.int .i64 0)]) 24 rfl Try.underlying23 info38 rfl (by decide) (by omega) u10 x10_3 (⟨x11_3, wrap64 ((wrap64 (a1 + a2)) - x11_3), (-1)⟩ : S38) [.int .i64 x11_3, .int .i64 (wrap64 ((wrap64 (a1 + a2)) - x11_3)), .int .i64 (-1)] (fun _ => True) (fun _ => False) rfl rfl ?aP (fun _ hk => hk.elim) ?aF ?aO ?aB ?aS ?aL ?_; (case aP => exact k38_mkM _ _ _ (⟨x11_3, wrap64 ((wrap64 (a1 + a2)) - x11_3), (-1)⟩ : S38)); (case aB => exact (by repeat with_reducible first | exact HB.out | apply below_alloc | apply pw_below_drewN | apply below_drew1)); (case aF => exact (fun _ _ => trivial)); (case aO => exact (by (with_reducible repeat (first | apply Kd.R_alloc | apply Kd.R_drewN | apply Kd.R_drew)); exact HO_10.out)); (case aS => exact (below_size (by repeat with_reducible first | exact HB.out | apply below_alloc | apply pw_below_drewN | apply below_drew1))); (case aL => have := LMc58.out; omega); intro v109 w59 ho hb hg hat; rw [← Ny108.out] at ho; have n0_ := Aside0.mk (hb); have n1_ := Aside0.mk (ho); clear HB; clear HO_10; have HB := n0_; have HO110 := n1_; clear n0_ n1_; clear ho hb hg hat))
                      go_ret2
                      exact ⟨_, by first | rfl | (simp [errW_none, errW_some] <;> rfl) | (simp [*, errW_none, errW_some] <;> rfl), by (with_reducible repeat (first | apply Kd.R_alloc | apply Kd.R_drewN | apply Kd.R_drew)); exact HO110.out, by repeat with_reducible first | exact HB.out | apply below_alloc | apply pw_below_drewN | apply below_drew1⟩
                    · rw [if_neg c58] at H
                      exact absurd H (by simp)
                  · rw [if_neg c57] at H
                    have c57b0 : decide (x11_3 < (wrap64 (a1 + a2))) = false := decide_eq_false c57
                    clear c57
                    simp only [Option.some.injEq, Prod.mk.injEq] at H
                    obtain ⟨rfl, rfl⟩ := H
                    go_wp2
                    go_ret2
                    exact ⟨_, by first | rfl | (simp [errW_none, errW_some] <;> rfl) | (simp [*, errW_none, errW_some] <;> rfl), by (with_reducible repeat (first | apply Kd.R_alloc | apply Kd.R_drewN | apply Kd.R_drew)); exact HO_10.out, by repeat with_reducible first | exact HB.out | apply below_alloc | apply pw_below_drewN | apply below_drew1⟩

/-! ### ferrulelaw15_sample: function 9 -/
def ferrulelaw15_sample.f  : Option ((List (S39))) := some (([(⟨0, 1, 5⟩ : S39), (⟨2, 1, 9⟩ : S39), (⟨3, 3, 20⟩ : S39)] : List (S39)))
set_option maxHeartbeats 8000000 in
set_option maxRecDepth 100000 in
theorem ferrulelaw15_sample.calls  (r : List (S39)) (w : World) (h : ferrulelaw15_sample.f  = some r) :
    Calls Try.prog 9 #[] w fun e w' => ∃ v0_ : Value, e = .returned (v0_) ∧ Kd.R k39 39 w' w.heap.size (fun _ => True) v0_ r ∧ Below w.heap.size w w' := by
  have hu39 := Try.underlying39
  have HB := Aside0.mk (Below.refl w.heap.size w)
  have H : (some (([(⟨0, 1, 5⟩ : S39), (⟨2, 1, 9⟩ : S39), (⟨3, 3, 20⟩ : S39)] : List (S39)))) = some r := h
  clear h
  obtain ⟨y119, hy119⟩ : ∃ y_ : List (S39), y_ = (([(⟨0, 1, 5⟩ : S39), (⟨2, 1, 9⟩ : S39), (⟨3, 3, 20⟩ : S39)] : List (S39))) := ⟨_, rfl⟩
  replace H : (some y119) = some r := by first | (rw [hy119]; with_reducible exact H) | (have H2_ := (Option.bind_some _ _).symm.trans H; rw [hy119]; with_reducible exact H2_) | (have H2_ := (Option.bind_some _ _).symm.trans H; with_reducible exact H2_) | with_reducible exact H | (rw [hy119]; exact H) | exact H
  have Ny119 := Aside0.mk hy119
  clear hy119
  obtain rfl := Option.some.inj H
  go_enter Try.func9, Try.ntmps9
  go_wp2_with (first | ((with_reducible refine gate_dst (N := 4) rfl ?_); refine Kd.R_lit k39 _ 39 ?hg (N := 4) ?hd (xs := ([(⟨0, 1, 5⟩ : S39), (⟨2, 1, 9⟩ : S39), (⟨3, 3, 20⟩ : S39)] : List (S39))) (inner := [.int .i64 0, .int .i64 1, .int .i64 5, .int .i64 2, .int .i64 1, .int .i64 9, .int .i64 3, .int .i64 3, .int .i64 20]) (ok := fun _ => True) (okp := fun _ => True) ?hr ?hp (fun _ hk => hk) trivial (Below.refl _ _) (Nat.le_refl _) (by simp) ?_; (case hd => rfl); (case hg => rfl); (case hr => first | (go_simp; done) | (go_simp; rfl)); (case hp => exact (Reps.c3 (show Kd.M k39 _ _ _ (⟨0, 1, 5⟩ : S39) [.int .i64 0, .int .i64 1, .int .i64 5] from (k39_mkM _ _ _ (⟨0, 1, 5⟩ : S39) )) (Reps.c3 (show Kd.M k39 _ _ _ (⟨2, 1, 9⟩ : S39) [.int .i64 2, .int .i64 1, .int .i64 9] from (k39_mkM _ _ _ (⟨2, 1, 9⟩ : S39) )) (Reps.c3 (show Kd.M k39 _ _ _ (⟨3, 3, 20⟩ : S39) [.int .i64 3, .int .i64 3, .int .i64 20] from (k39_mkM _ _ _ (⟨3, 3, 20⟩ : S39) )) (Reps.none _ _))))); intro v120 w1 ho2 hb hg_ hnew_; clear hg_ hnew_; (first | rw [← Ny119.out] at ho2 | (simp only [Int.reduceToNat] at ho2; rw [← Ny119.out] at ho2)); have n0_ := Aside0.mk (Kd.R_lower ho2 (below_size (by repeat with_reducible first | exact HB.out | apply below_alloc | apply pw_below_drewN | apply below_drew1))); have n1_ := Aside0.mk (below_step (by repeat with_reducible first | exact HB.out | apply below_alloc | apply pw_below_drewN | apply below_drew1) hb); clear HB; have HO121 := n0_; have HB := n1_; clear n0_ n1_; clear hb ho2))
  go_ret
  exact ⟨_, by first | rfl | (simp [errW_none, errW_some] <;> rfl) | (simp [*, errW_none, errW_some] <;> rfl), by (with_reducible repeat (first | apply Kd.R_alloc | apply Kd.R_drewN | apply Kd.R_drew)); exact HO121.out, by repeat with_reducible first | exact HB.out | apply below_alloc | apply pw_below_drewN | apply below_drew1⟩

end Go.Proofs.Ytigecigoomofdaa.PWindowTells
