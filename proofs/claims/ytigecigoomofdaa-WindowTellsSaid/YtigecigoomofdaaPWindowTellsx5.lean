-- By a program of this session (NOTES.md). Lean checks it.
import Derived.Test.YtigecigoomofdaaPWindowTellsx0
import Derived.Test.YtigecigoomofdaaPWindowTellsx3
namespace Go.Proofs.Ytigecigoomofdaa.PWindowTells
open Go.RowKit Go.Proofs.YtigecigoomofdaaW.PrintWords Go.Proofs.YtigecigoomofdaaW.PrintLast Go.Proofs.YtigecigoomofdaaW.PrintMore
attribute [local go_sem] max2_int min2_int max_two min_two max_three min_three max_four min_four   -- for this text's walks alone
set_option linter.unusedVariables false
set_option linter.unusedSimpArgs false

/-! ### window_Many: function 10 -/
mutual
def window_Many.j0 : Nat → List (S39) → Int → Int → Bool → Option (List Int × Int)
  | 0, _, _, _, _ => none
  | k + 1, x0, x1, x2, x36 => if x36 = true then (some (([] : List Int), 1)) else (if x2 = 0 then (none) else (if 0 ≤ (wrap64 (Int.tdiv (wrap64 ((wrap64 (x1 + x2)) - 1)) x2)) then (if (wrap64 (Int.tdiv (wrap64 ((wrap64 (x1 + x2)) - 1)) x2) : Int).toNat ≤ 35184372088832 then (window_Many.l0 k x1 x2 (List.replicate (wrap64 (Int.tdiv (wrap64 ((wrap64 (x1 + x2)) - 1)) x2) : Int).toNat 0) x0 (x0.length : Int) 0) else (none)) else (none)))
def window_Many.l0 : Nat → Int → Int → List Int → List (S39) → Int → Int → Option (List Int × Int)
  | 0, _, _, _, _, _, _ => none
  | k + 1, x1, x2, x8, x44, x45, x46 => if x46 < x45 then (if 0 ≤ x46 then (if x46 < (x44.length : Int) then (if ((rd_T39 x44 x46).f0) ≥ x1 then (window_Many.j2 k x1 x2 x8 x44 x45 x46 true ((rd_T39 x44 x46).f0) ((rd_T39 x44 x46).f1) ((rd_T39 x44 x46).f2)) else (window_Many.j2 k x1 x2 x8 x44 x45 x46 (decide (((rd_T39 x44 x46).f1) > (wrap64 (x1 - ((rd_T39 x44 x46).f0))))) ((rd_T39 x44 x46).f0) ((rd_T39 x44 x46).f1) ((rd_T39 x44 x46).f2))) else (none)) else (none)) else (some (x8, 0))
def window_Many.j2 : Nat → Int → Int → List Int → List (S39) → Int → Int → Bool → Int → Int → Int → Option (List Int × Int)
  | 0, _, _, _, _, _, _, _, _, _, _ => none
  | k + 1, x1, x2, x8, x44, x45, x46, x62, x128000, x128001, x128002 => if x62 = true then (some (([] : List Int), 1)) else (if x2 = 0 then (none) else (window_Many.l1 k x1 x2 x8 (wrap64 (Int.tdiv x128000 x2)) x44 x45 x46 x128000 x128001 x128002))
def window_Many.l1 : Nat → Int → Int → List Int → Int → List (S39) → Int → Int → Int → Int → Int → Option (List Int × Int)
  | 0, _, _, _, _, _, _, _, _, _, _ => none
  | k + 1, x1, x2, x8, x11, x44, x45, x46, x128000, x128001, x128002 => if x2 = 0 then (none) else (if x11 ≤ (wrap64 (Int.tdiv (wrap64 ((wrap64 (x128000 + x128001)) - 1)) x2)) then (if 0 ≤ x11 then (if x11 < (x8.length : Int) then (window_Many.l1 k x1 x2 (x8.set (x11 : Int).toNat (wrap64 ((rd x8 x11) + 1))) (wrap64 (x11 + 1)) x44 x45 x46 x128000 x128001 x128002) else (none)) else (none)) else (window_Many.l0 k x1 x2 x8 x44 x45 (wrap64 (x46 + 1))))
end
def window_Many.f (k : Nat) (l0 : List (S39)) (a1 : Int) (a2 : Int) : Option (List Int × Int) := if a1 < 1 then (window_Many.j0 k l0 a1 a2 true) else (if a1 > 512 then (window_Many.j0 k l0 a1 a2 true) else (if a2 < 1 then (window_Many.j0 k l0 a1 a2 true) else (if a2 > a1 then (window_Many.j0 k l0 a1 a2 true) else (if (l0.length : Int) > 512 then (window_Many.j0 k l0 a1 a2 true) else ((span_Form.f k l0).bind fun t122 => (window_Many.j0 k l0 a1 a2 (!t122)))))))
theorem window_Many.mono_l : ∀ k, (∀ y0 y1 y2 y3, LeO (window_Many.j0 k y0 y1 y2 y3) (window_Many.j0 (k + 1) y0 y1 y2 y3)) ∧ (∀ y0 y1 y2 y3 y4 y5, LeO (window_Many.l0 k y0 y1 y2 y3 y4 y5) (window_Many.l0 (k + 1) y0 y1 y2 y3 y4 y5)) ∧ (∀ y0 y1 y2 y3 y4 y5 y6 y7 y8 y9, LeO (window_Many.j2 k y0 y1 y2 y3 y4 y5 y6 y7 y8 y9) (window_Many.j2 (k + 1) y0 y1 y2 y3 y4 y5 y6 y7 y8 y9)) ∧ (∀ y0 y1 y2 y3 y4 y5 y6 y7 y8 y9, LeO (window_Many.l1 k y0 y1 y2 y3 y4 y5 y6 y7 y8 y9) (window_Many.l1 (k + 1) y0 y1 y2 y3 y4 y5 y6 y7 y8 y9))
  | 0 => ⟨fun _ _ _ _ r h => by simp [window_Many.j0] at h, fun _ _ _ _ _ _ r h => by simp [window_Many.l0] at h, fun _ _ _ _ _ _ _ _ _ _ r h => by simp [window_Many.j2] at h, fun _ _ _ _ _ _ _ _ _ _ r h => by simp [window_Many.l1] at h⟩
  | k + 1 => by
    obtain ⟨ih0, ih1, ih2, ih3⟩ := window_Many.mono_l k
    refine ⟨?_, ?_, ?_, ?_⟩
    · intro y0 y1 y2 y3
      unfold window_Many.j0
      repeat' first
      | (with_reducible exact ih0 _ _ _ _)
      | (with_reducible exact ih1 _ _ _ _ _ _)
      | (with_reducible exact ih2 _ _ _ _ _ _ _ _ _ _)
      | (with_reducible exact ih3 _ _ _ _ _ _ _ _ _ _)
      | (with_reducible exact span_Form.mono _ _)
      | (with_reducible exact LeO.refl _)
      | (with_reducible exact LeO.none _)
      | (with_reducible refine LeO.ite ?_ ?_)
      | (with_reducible refine LeO.bind ?_ (fun _ => ?_))
      | exact ih0 _ _ _ _
      | exact ih1 _ _ _ _ _ _
      | exact ih2 _ _ _ _ _ _ _ _ _ _
      | exact ih3 _ _ _ _ _ _ _ _ _ _
      | exact span_Form.mono _ _
      | exact LeO.none _
      | refine LeO.ite ?_ ?_
      | refine LeO.bind ?_ (fun _ => ?_)
    · intro y0 y1 y2 y3 y4 y5
      unfold window_Many.l0
      repeat' first
      | (with_reducible exact ih0 _ _ _ _)
      | (with_reducible exact ih1 _ _ _ _ _ _)
      | (with_reducible exact ih2 _ _ _ _ _ _ _ _ _ _)
      | (with_reducible exact ih3 _ _ _ _ _ _ _ _ _ _)
      | (with_reducible exact span_Form.mono _ _)
      | (with_reducible exact LeO.refl _)
      | (with_reducible exact LeO.none _)
      | (with_reducible refine LeO.ite ?_ ?_)
      | (with_reducible refine LeO.bind ?_ (fun _ => ?_))
      | exact ih0 _ _ _ _
      | exact ih1 _ _ _ _ _ _
      | exact ih2 _ _ _ _ _ _ _ _ _ _
      | exact ih3 _ _ _ _ _ _ _ _ _ _
      | exact span_Form.mono _ _
      | exact LeO.none _
      | refine LeO.ite ?_ ?_
      | refine LeO.bind ?_ (fun _ => ?_)
    · intro y0 y1 y2 y3 y4 y5 y6 y7 y8 y9
      unfold window_Many.j2
      repeat' first
      | (with_reducible exact ih0 _ _ _ _)
      | (with_reducible exact ih1 _ _ _ _ _ _)
      | (with_reducible exact ih2 _ _ _ _ _ _ _ _ _ _)
      | (with_reducible exact ih3 _ _ _ _ _ _ _ _ _ _)
      | (with_reducible exact span_Form.mono _ _)
      | (with_reducible exact LeO.refl _)
      | (with_reducible exact LeO.none _)
      | (with_reducible refine LeO.ite ?_ ?_)
      | (with_reducible refine LeO.bind ?_ (fun _ => ?_))
      | exact ih0 _ _ _ _
      | exact ih1 _ _ _ _ _ _
      | exact ih2 _ _ _ _ _ _ _ _ _ _
      | exact ih3 _ _ _ _ _ _ _ _ _ _
      | exact span_Form.mono _ _
      | exact LeO.none _
      | refine LeO.ite ?_ ?_
      | refine LeO.bind ?_ (fun _ => ?_)
    · intro y0 y1 y2 y3 y4 y5 y6 y7 y8 y9
      unfold window_Many.l1
      repeat' first
      | (with_reducible exact ih0 _ _ _ _)
      | (with_reducible exact ih1 _ _ _ _ _ _)
      | (with_reducible exact ih2 _ _ _ _ _ _ _ _ _ _)
      | (with_reducible exact ih3 _ _ _ _ _ _ _ _ _ _)
      | (with_reducible exact span_Form.mono _ _)
      | (with_reducible exact LeO.refl _)
      | (with_reducible exact LeO.none _)
      | (with_reducible refine LeO.ite ?_ ?_)
      | (with_reducible refine LeO.bind ?_ (fun _ => ?_))
      | exact ih0 _ _ _ _
      | exact ih1 _ _ _ _ _ _
      | exact ih2 _ _ _ _ _ _ _ _ _ _
      | exact ih3 _ _ _ _ _ _ _ _ _ _
      | exact span_Form.mono _ _
      | exact LeO.none _
      | refine LeO.ite ?_ ?_
      | refine LeO.bind ?_ (fun _ => ?_)
theorem window_Many.mono : ∀ a0 a1 a2 k, LeO (window_Many.f k a0 a1 a2) (window_Many.f (k + 1) a0 a1 a2) := by
  intro a0 a1 a2 k
  obtain ⟨ih0, ih1, ih2, ih3⟩ := window_Many.mono_l k
  unfold window_Many.f
  repeat' first
      | (with_reducible exact ih0 _ _ _ _)
      | (with_reducible exact ih1 _ _ _ _ _ _)
      | (with_reducible exact ih2 _ _ _ _ _ _ _ _ _ _)
      | (with_reducible exact ih3 _ _ _ _ _ _ _ _ _ _)
      | (with_reducible exact span_Form.mono _ _)
      | (with_reducible exact LeO.refl _)
      | (with_reducible exact LeO.none _)
      | (with_reducible refine LeO.ite ?_ ?_)
      | (with_reducible refine LeO.bind ?_ (fun _ => ?_))
      | exact ih0 _ _ _ _
      | exact ih1 _ _ _ _ _ _
      | exact ih2 _ _ _ _ _ _ _ _ _ _
      | exact ih3 _ _ _ _ _ _ _ _ _ _
      | exact span_Form.mono _ _
      | exact LeO.none _
      | refine LeO.ite ?_ ?_
      | refine LeO.bind ?_ (fun _ => ?_)
set_option maxHeartbeats 8000000 in
set_option maxRecDepth 100000 in
theorem window_Many.calls (k : Nat) (A0 : Option Addr) (c0 : Nat) (l0 : List (S39)) (a1 : Int) (a2 : Int) (r1 : List Int) (r2 : Int) (w : World) (hr0 : Kd.C k39 w A0 l0.length l0) (hc0 : l0.length ≤ c0) (h : window_Many.f k l0 a1 a2 = some (r1, r2)) :
    Calls Try.prog 10 #[.slice A0 l0.length c0, .int .i64 a1, .int .i64 a2] w fun e w' => ∃ v0_ : Value, e = .returned (.tuple #[v0_, .int .i64 r2]) ∧ Kd.R (Kd.int .i64) 3 w' w.heap.size (fun _ => True) v0_ r1 ∧ Below w.heap.size w w' := by
 have hu39 := Try.underlying39
 have HR0 := Aside0.mk hr0
 have HC0 := Aside0.mk hc0
 clear hr0 hc0
 have HB := Aside0.mk (Below.refl w.heap.size w)
 have H : (if a1 < 1 then (window_Many.j0 k l0 a1 a2 true) else (if a1 > 512 then (window_Many.j0 k l0 a1 a2 true) else (if a2 < 1 then (window_Many.j0 k l0 a1 a2 true) else (if a2 > a1 then (window_Many.j0 k l0 a1 a2 true) else (if (l0.length : Int) > 512 then (window_Many.j0 k l0 a1 a2 true) else ((span_Form.f k l0).bind fun t122 => (window_Many.j0 k l0 a1 a2 (!t122)))))))) = some (r1, r2) := h
 clear h
 have HC4 := Aside0.mk H
 clear H
 go_enter Try.func10, Try.ntmps10
 go_upto_region 1 with (fail)
 go_cut [36] (fun v36 wc => ∃ (kq : Nat) (x36_3 : Bool), v36 = .bool x36_3 ∧ Aside0 (window_Many.j0 kq l0 a1 a2 x36_3 = some (r1, r2)) ∧ Aside0 (kq ≤ k) ∧ Aside0 (Below w.heap.size w wc))
 case first =>
  have H := HC4.out
  clear HC4
  by_cases c5 : a1 < 1
  {
  rw [if_pos c5] at H
  have c5b0 : decide (a1 < 1) = true := decide_eq_true c5
  clear c5
  (first | rw [c5b0] | (simp only [i64_w, i32_w]; rw [c5b0]) | skip)
  have H' := Aside0.mk H
  clear H
  go_wp2
  go_meet
  case rel => exact ⟨_, (true), (by first | rfl | (simp; done) | (simp [*]; done)), H', ⟨by first | omega | exact Nat.le_refl _⟩, ⟨by repeat with_reducible first | exact HB.out | apply below_alloc | apply pw_below_drewN | apply below_drew1⟩⟩
  }
  {
  rw [if_neg c5] at H
  have c5b0 : decide (a1 < 1) = false := decide_eq_false c5
  clear c5
  (first | rw [c5b0] | (simp only [i64_w, i32_w]; rw [c5b0]) | skip)
  by_cases c6 : a1 > 512
  {
  rw [if_pos c6] at H
  have c6b0 : decide (512 < a1) = true := decide_eq_true c6
  clear c6
  have H' := Aside0.mk H
  clear H
  go_wp2
  go_meet
  case rel => exact ⟨_, (true), (by first | rfl | (simp; done) | (simp [*]; done)), H', ⟨by first | omega | exact Nat.le_refl _⟩, ⟨by repeat with_reducible first | exact HB.out | apply below_alloc | apply pw_below_drewN | apply below_drew1⟩⟩
  }
  {
  rw [if_neg c6] at H
  have c6b0 : decide (512 < a1) = false := decide_eq_false c6
  clear c6
  by_cases c7 : a2 < 1
  {
  rw [if_pos c7] at H
  have c7b0 : decide (a2 < 1) = true := decide_eq_true c7
  clear c7
  have H' := Aside0.mk H
  clear H
  go_wp2
  go_meet
  case rel => exact ⟨_, (true), (by first | rfl | (simp; done) | (simp [*]; done)), H', ⟨by first | omega | exact Nat.le_refl _⟩, ⟨by repeat with_reducible first | exact HB.out | apply below_alloc | apply pw_below_drewN | apply below_drew1⟩⟩
  }
  {
  rw [if_neg c7] at H
  have c7b0 : decide (a2 < 1) = false := decide_eq_false c7
  clear c7
  by_cases c8 : a2 > a1
  {
  rw [if_pos c8] at H
  have c8b0 : decide (a1 < a2) = true := decide_eq_true c8
  clear c8
  have H' := Aside0.mk H
  clear H
  go_wp2
  go_meet
  case rel => exact ⟨_, (true), (by first | rfl | (simp; done) | (simp [*]; done)), H', ⟨by first | omega | exact Nat.le_refl _⟩, ⟨by repeat with_reducible first | exact HB.out | apply below_alloc | apply pw_below_drewN | apply below_drew1⟩⟩
  }
  {
  rw [if_neg c8] at H
  have c8b0 : decide (a1 < a2) = false := decide_eq_false c8
  clear c8
  by_cases c9 : (l0.length : Int) > 512
  {
  rw [if_pos c9] at H
  have c9b0 : decide (512 < (l0.length : Int)) = true := decide_eq_true c9
  have c9b1 : decide (512 < l0.length) = true := decide_eq_true (by omega)
  clear c9
  have H' := Aside0.mk H
  clear H
  go_wp2
  go_meet
  case rel => exact ⟨_, (true), (by first | rfl | (simp; done) | (simp [*]; done)), H', ⟨by first | omega | exact Nat.le_refl _⟩, ⟨by repeat with_reducible first | exact HB.out | apply below_alloc | apply pw_below_drewN | apply below_drew1⟩⟩
  }
  {
  rw [if_neg c9] at H
  have c9b0 : decide (512 < (l0.length : Int)) = false := decide_eq_false c9
  have c9b1 : decide (512 < l0.length) = false := decide_eq_false (by omega)
  clear c9
  replace H := Option.bind_eq_some_iff.mp H
  obtain ⟨t122, A100, H⟩ := H
  replace H : (window_Many.j0 k l0 a1 a2 (!t122)) = some (r1, r2) := H
  have A10 := Aside0.mk A100
  clear A100
  have H' := Aside0.mk H
  clear H
  go_wp2_with (first | (go_at_call 18; (with_reducible refine (span_Form.calls k _ _ l0 t122 _ ?side1 ?side2 A10.out).mono ?_); (case side1 => repeat (first | exact (Kd.C_below HR0.out HB.out) | (with_reducible refine Kd.C_alloc ?_ _) | (with_reducible refine Kd.C_drewN ?_ _) | (with_reducible refine Kd.C_drew ?_))); (case side2 => exact HC0.out); rintro e w11 ⟨rfl, hb⟩; have n0_ := Aside0.mk (below_step (by repeat with_reducible first | exact HB.out | apply below_alloc | apply pw_below_drewN | apply below_drew1) hb); clear HB; have HB := n0_; clear n0_; (try clear hb); (try clear hb2); (try clear hk); (try clear hi)))
  go_meet
  case rel => exact ⟨_, (!t122), (by first | rfl | (simp; done) | (simp [*]; done)), H', ⟨by first | omega | exact Nat.le_refl _⟩, ⟨by repeat with_reducible first | exact HB.out | apply below_alloc | apply pw_below_drewN | apply below_drew1⟩⟩
  }
  }
  }
  }
  }
 case rest =>
  clear HC4
  try clear c1
  try clear p2
  try clear c5
  try clear c5b0
  try clear c6
  try clear c6b0
  try clear c7
  try clear c7b0
  try clear c8
  try clear c8b0
  try clear c9
  try clear c9b0
  try clear c9b1
  try clear c10
  obtain ⟨kq, x36_3, rfl, HA, HJ3, HB⟩ := hcut
  cases kq with
  | zero => exact absurd HA.out (by simp [window_Many.j0])
  | succ kj3 =>
    have H := HA.out
    clear HA
    simp only [window_Many.j0] at H
    by_cases c12 : x36_3 = true
    · subst c12
      have H1 : (some (([] : List Int), 1)) = some (r1, r2) := by rw [if_pos rfl] at H; exact H
      clear H
      have H := H1
      clear H1
      simp only [Option.some.injEq, Prod.mk.injEq] at H
      obtain ⟨rfl, rfl⟩ := H
      go_wp2
      go_ret2
      exact ⟨_, by first | rfl | (simp [errW_none, errW_some] <;> rfl) | (simp [*, errW_none, errW_some] <;> rfl), by first | exact Kd.R_nil _ _ _ _ _ | exact Kd.N_nil _ _ _ _ _ | exact Kd.V_nil _ _ _ _ _ | exact Kd.Q_nil _ _ _ _ _ | exact Kd.S_nil _ _ _ _ _, by repeat with_reducible first | exact HB.out | apply below_alloc | apply pw_below_drewN | apply below_drew1⟩
    · replace c12 := Bool.eq_false_iff.mpr c12
      subst c12
      have H1 : (if a2 = 0 then (none) else (if 0 ≤ (wrap64 (Int.tdiv (wrap64 ((wrap64 (a1 + a2)) - 1)) a2)) then (if (wrap64 (Int.tdiv (wrap64 ((wrap64 (a1 + a2)) - 1)) a2) : Int).toNat ≤ 35184372088832 then (window_Many.l0 kj3 a1 a2 (List.replicate (wrap64 (Int.tdiv (wrap64 ((wrap64 (a1 + a2)) - 1)) a2) : Int).toNat 0) l0 (l0.length : Int) 0) else (none)) else (none))) = some (r1, r2) := by rw [if_neg (show ¬ (false = true) by decide)] at H; exact H
      clear H
      have H := H1
      clear H1
      by_cases c13 : a2 = 0
      · rw [if_pos c13] at H
        exact absurd H (by simp)
      · rw [if_neg c13] at H
        have c13b0 : (a2 == 0) = false := beq_eq_false_iff_ne.mpr c13
        have c13b1 : (a2 != 0) = true := bne_iff_ne.mpr c13
        obtain ⟨ji14, hji14⟩ : ∃ j_ : Int, (wrap64 (Int.tdiv (wrap64 ((wrap64 (a1 + a2)) - 1)) a2)) = j_ := ⟨_, rfl⟩
        replace H : (if 0 ≤ (ji14) then (if (ji14 : Int).toNat ≤ 35184372088832 then (window_Many.l0 kj3 a1 a2 (List.replicate (ji14 : Int).toNat 0) l0 (l0.length : Int) 0) else (none)) else (none)) = some (r1, r2) := by first | (rw [hji14] at H; exact H) | (simp only [hji14] at H ⊢; exact H)
        have hji14w : (IntKind.i64.wrap (Int.tdiv (wrap64 ((wrap64 (a1 + a2)) - 1)) a2)) = ji14 := (i64_w _).trans hji14
        by_cases c15 : 0 ≤ (ji14)
        · rw [if_pos c15] at H
          have c15b0 := eq_true c15
          have c15b1 : decide (0 ≤ (ji14)) = true := decide_eq_true c15
          clear c15
          by_cases c16 : (ji14 : Int).toNat ≤ 35184372088832
          · rw [if_pos c16] at H
            have c16b0 := eq_true c16
            have c16b1 : decide ((ji14 : Int).toNat ≤ 35184372088832) = true := decide_eq_true c16
            clear c16
            obtain ⟨y123, hy123⟩ : ∃ y_ : List Int, y_ = (List.replicate (ji14 : Int).toNat 0) := ⟨_, rfl⟩
            replace H : (window_Many.l0 kj3 a1 a2 y123 l0 (l0.length : Int) 0) = some (r1, r2) := by first | (rw [hy123]; with_reducible exact H) | (have H2_ := (Option.bind_some _ _).symm.trans H; rw [hy123]; with_reducible exact H2_) | (have H2_ := (Option.bind_some _ _).symm.trans H; with_reducible exact H2_) | with_reducible exact H | (rw [hy123]; exact H) | exact H
            have Ny123 := Aside0.mk hy123
            clear hy123
            have H' := Aside0.mk H
            clear H
            go_wp2_with (first | ((with_reducible refine gate_dst (N := 43) rfl ?_); (try (refine gate_guard (by rfl) ?_; dsimp only)); refine Kd.R_make (Kd.int .i64) _ 3 rfl (N := 43) rfl 29 _ _ rfl ji14 rfl rfl Try.underlying29 (.int .i64 0) 8 info3 rfl (by decide) (by omega) 0 (ok := fun _ => True) (okp := fun _ => True) rfl (fun _ hk => hk) trivial (of_decide_eq_true (by with_reducible assumption)) (Nat.le_trans (Nat.mul_le_mul_right _ (of_decide_eq_true (by with_reducible assumption) : ji14.toNat ≤ 35184372088832)) (by omega)) (Below.refl _ _) (Nat.le_refl _) ?_; intro v124 w17 ho18 hb hg_ hnew_; clear hg_ hnew_; (first | rw [← Ny123.out] at ho18 | (simp only [Int.reduceToNat] at ho18; rw [← Ny123.out] at ho18)); have n0_ := Aside0.mk (Kd.R_lower ho18 (below_size (by repeat with_reducible first | exact HB.out | apply below_alloc | apply pw_below_drewN | apply below_drew1))); have n1_ := Aside0.mk (below_step (by repeat with_reducible first | exact HB.out | apply below_alloc | apply pw_below_drewN | apply below_drew1) hb); clear HB; have HO125 := n0_; have HB := n1_; clear n0_ n1_; clear hb ho18))
            go_loopg [46] kj3 (fun kq v46 w' => ∃ (x8_2 : List Int) (x46_2 : Int), v46 = .int .i64 x46_2 ∧ Aside0 (window_Many.l0 kq a1 a2 x8_2 l0 (l0.length : Int) x46_2 = some (r1, r2)) ∧ Aside0 (kq ≤ kj3) ∧ Aside0 (Kd.R (Kd.int .i64) 3 w' w.heap.size (fun _ => True) v124 x8_2) ∧ Aside0 (Below w.heap.size w w'))
            case atStart => exact ⟨(y123), (0), (by first | rfl | (simp; done) | (simp [*]; done)), H', ⟨Nat.le_refl _⟩, ⟨by (with_reducible repeat (first | apply Kd.R_alloc | apply Kd.R_drewN | apply Kd.R_drew)); exact HO125.out⟩, ⟨by repeat with_reducible first | exact HB.out | apply below_alloc | apply pw_below_drewN | apply below_drew1⟩⟩
            case round =>
              clear H'
              try clear c1
              try clear p2
              try clear c5
              try clear c5b0
              try clear c6
              try clear c6b0
              try clear p6
              try clear c7
              try clear c7b0
              try clear c8
              try clear c8b0
              try clear c9
              try clear c9b0
              try clear c9b1
              try clear c10
              try clear c12
              try clear c13
              try clear c13b0
              try clear c13b1
              try clear c15
              try clear c15b0
              try clear c15b1
              try clear c16
              try clear c16b0
              try clear c16b1
              try clear p2
              obtain ⟨x8_2, x46_2, rfl, HA, HK2, HO_8, HB⟩ := hrel
              cases gk with
              | zero => exact absurd HA.out (by simp [window_Many.l0])
              | succ k2 =>
                have H := HA.out
                clear HA
                simp only [window_Many.l0] at H
                by_cases c19 : x46_2 < (l0.length : Int)
                · rw [if_pos c19] at H
                  have c19b0 : decide (x46_2 < (l0.length : Int)) = true := decide_eq_true c19
                  clear c19
                  by_cases c20 : 0 ≤ x46_2
                  · rw [if_pos c20] at H
                    have c20b0 : decide (0 ≤ x46_2) = true := decide_eq_true c20
                    clear c20
                    by_cases c21 : x46_2 < (l0.length : Int)
                    · rw [if_pos c21] at H
                      have c21b0 : decide (x46_2 < (l0.length : Int)) = true := decide_eq_true c21
                      clear c21
                      have HC22 := Aside0.mk H
                      clear H
                      have p126 : 0 ≤ (x46_2 : Int) := of_decide_eq_true (by with_reducible assumption)
                      have q126 : x46_2 < (l0.length : Int) := of_decide_eq_true (by with_reducible assumption)
                      obtain ⟨ad126, e126, hx126_0, hx126_1, hx126_2⟩ := at_T39 HR0.out x46_2 p126 q126
                      cases e126
                      replace hx126_0 := (HB.out.cell (World.block_lt_of_cell? w _ hx126_0)).trans hx126_0
                      replace hx126_1 := (HB.out.cell (World.block_lt_of_cell? w _ hx126_1)).trans hx126_1
                      replace hx126_2 := (HB.out.cell (World.block_lt_of_cell? w _ hx126_2)).trans hx126_2
                      replace p126 := eq_true p126
                      replace q126 := eq_true q126
                      go_upto_region 7 with (first | ((with_reducible refine gate_dst (N := 10) rfl ?_); (try (refine gate_guard (by rfl) ?_; dsimp only)); refine box_event ?hg (N := 10) ?hd (cs := #[.int .i64 0, .int .i64 0, .int .i64 0]) (t := 39) ?hr ?_; (case hd => rfl); (case hg => rfl); (case hr => first | (go_simp; done) | (go_simp; rfl)); intro gb127 hg w23 hbox hb; have n0_ := Aside0.mk (Kd.R_below (by (with_reducible repeat (first | apply Kd.R_alloc | apply Kd.R_drewN | apply Kd.R_drew)); exact HO_8.out) hb); have n1_ := Aside0.mk (below_step (by repeat with_reducible first | exact HB.out | apply below_alloc | apply pw_below_drewN | apply below_drew1) hb); have n2_ := Aside0.mk (hbox); have n3_ := Aside0.mk ((by rw [hg]; exact (below_size (by repeat with_reducible first | exact HB.out | apply below_alloc | apply pw_below_drewN | apply below_drew1)) : w.heap.size ≤ gb127)); have n4_ := Aside0.mk ((by rw [hg]; exact (below_size (by repeat with_reducible first | exact HB.out | apply below_alloc | apply pw_below_drewN | apply below_drew1)) : w.heap.size ≤ gb127)); clear HO_8; clear HB; have HO_8 := n0_; have HB := n1_; have BK127 := n2_; have GW127 := n3_; have GE127 := n4_; clear n0_ n1_ n2_ n3_ n4_; clear hb hbox hg; have hcz24_0 : w23.cell? ⟨gb127, 0, none⟩ = some (.int .i64 0) := (blk_cell BK127.out 0).trans rfl; have hcz24_1 : w23.cell? ⟨gb127, 1, none⟩ = some (.int .i64 0) := (blk_cell BK127.out 1).trans rfl; have hcz24_2 : w23.cell? ⟨gb127, 2, none⟩ = some (.int .i64 0) := (blk_cell BK127.out 2).trans rfl; have hfz24_0 := blk_frozen BK127.out 0; have hfz24_1 := blk_frozen BK127.out 1; have hfz24_2 := blk_frozen BK127.out 2))
                      (try simp only [Act.put, List.setIfInBounds_toArray, List.set_cons_zero, List.set_cons_succ])
                      go_cut [62] (fun v62 wc => ∃ (kq : Nat) (x62_21 : Bool), v62 = .bool x62_21 ∧ Aside0 (window_Many.j2 kq a1 a2 x8_2 l0 (l0.length : Int) x46_2 x62_21 ((rd_T39 l0 x46_2).f0) ((rd_T39 l0 x46_2).f1) ((rd_T39 l0 x46_2).f2) = some (r1, r2)) ∧ Aside0 (kq ≤ k2) ∧ Aside0 (Kd.R (Kd.int .i64) 3 wc w.heap.size (fun _ => True) v124 x8_2) ∧ Aside0 (wc.heap[gb127]? = some (.cells #[.int .i64 ((rd_T39 l0 x46_2).f0), .int .i64 ((rd_T39 l0 x46_2).f1), .int .i64 ((rd_T39 l0 x46_2).f2)] 39 (0, 0))) ∧ Aside0 (Below w.heap.size w wc))
                      case first =>
                        have H := HC22.out
                        clear HC22
                        by_cases c25 : ((rd_T39 l0 x46_2).f0) ≥ a1
                        · rw [if_pos c25] at H
                          have c25b0 : decide (a1 ≤ ((rd_T39 l0 x46_2).f0)) = true := decide_eq_true c25
                          clear c25
                          (first | rw [c25b0] | (simp only [i64_w, i32_w]; rw [c25b0]) | skip)
                          have H' := Aside0.mk H
                          clear H
                          have hcz26_0 : w23.cell? ⟨gb127, 0, none⟩ = some (.int .i64 0) := (blk_cell BK127.out 0).trans rfl
                          have hcz26_1 : w23.cell? ⟨gb127, 1, none⟩ = some (.int .i64 0) := (blk_cell BK127.out 1).trans rfl
                          have hcz26_2 : w23.cell? ⟨gb127, 2, none⟩ = some (.int .i64 0) := (blk_cell BK127.out 2).trans rfl
                          have hfz26_0 := blk_frozen BK127.out 0
                          have hfz26_1 := blk_frozen BK127.out 1
                          have hfz26_2 := blk_frozen BK127.out 2
                          go_wp2
                          go_meet
                          case rel => exact ⟨_, (true), (by first | rfl | (simp; done) | (simp [*]; done)), H', ⟨by have := HJ3.out; have := HK2.out; first | omega | exact Nat.le_refl _⟩, ⟨by (with_reducible repeat (first | apply Kd.R_alloc | apply Kd.R_drewN | apply Kd.R_drew)); exact Kd.R_mono (Kd.R_far (p := ⟨gb127, 2, none⟩) (Kd.R_far (p := ⟨gb127, 1, none⟩) (Kd.R_far (p := ⟨gb127, 0, none⟩) (Kd.R_types HO_8.out BK127.out (by decide)) (fun _ hk => hk.2) (.int .i64 ((rd_T39 l0 x46_2).f0))) (fun _ hk => hk.2) (.int .i64 ((rd_T39 l0 x46_2).f1))) (fun _ hk => hk.2) (.int .i64 ((rd_T39 l0 x46_2).f2))) (fun _ hk => trivial)⟩, ⟨by (with_reducible repeat (first | refine blk_drewN ?_ _ | refine blk_drew ?_ | refine blk_alloc ?_ _)); refine blk_put (cs := #[.int .i64 ((rd_T39 l0 x46_2).f0), .int .i64 ((rd_T39 l0 x46_2).f1), .int .i64 0]) ?_ 2 _ rfl; (with_reducible repeat (first | refine blk_drewN ?_ _ | refine blk_drew ?_ | refine blk_alloc ?_ _)); refine blk_put (cs := #[.int .i64 ((rd_T39 l0 x46_2).f0), .int .i64 0, .int .i64 0]) ?_ 1 _ rfl; (with_reducible repeat (first | refine blk_drewN ?_ _ | refine blk_drew ?_ | refine blk_alloc ?_ _)); refine blk_put (cs := #[.int .i64 0, .int .i64 0, .int .i64 0]) ?_ 0 _ rfl; (with_reducible repeat (first | refine blk_drewN ?_ _ | refine blk_drew ?_ | refine blk_alloc ?_ _)); exact BK127.out⟩, ⟨by repeat (first | (with_reducible first | exact HB.out | apply below_alloc | apply pw_below_drewN | apply below_drew1 | refine below_set ?_ GE127.out) | exact HB.out)⟩⟩
                        · rw [if_neg c25] at H
                          have c25b0 : decide (a1 ≤ ((rd_T39 l0 x46_2).f0)) = false := decide_eq_false c25
                          clear c25
                          (first | rw [c25b0] | (simp only [i64_w, i32_w]; rw [c25b0]) | skip)
                          have H' := Aside0.mk H
                          clear H
                          have hcz27_0 : w23.cell? ⟨gb127, 0, none⟩ = some (.int .i64 0) := (blk_cell BK127.out 0).trans rfl
                          have hcz27_1 : w23.cell? ⟨gb127, 1, none⟩ = some (.int .i64 0) := (blk_cell BK127.out 1).trans rfl
                          have hcz27_2 : w23.cell? ⟨gb127, 2, none⟩ = some (.int .i64 0) := (blk_cell BK127.out 2).trans rfl
                          have hfz27_0 := blk_frozen BK127.out 0
                          have hfz27_1 := blk_frozen BK127.out 1
                          have hfz27_2 := blk_frozen BK127.out 2
                          go_wp2
                          go_meet
                          case rel => exact ⟨_, (decide (((rd_T39 l0 x46_2).f1) > (wrap64 (a1 - ((rd_T39 l0 x46_2).f0))))), (by first | rfl | (simp; done) | (simp [*]; done)), H', ⟨by have := HJ3.out; have := HK2.out; first | omega | exact Nat.le_refl _⟩, ⟨by (with_reducible repeat (first | apply Kd.R_alloc | apply Kd.R_drewN | apply Kd.R_drew)); exact Kd.R_mono (Kd.R_far (p := ⟨gb127, 2, none⟩) (Kd.R_far (p := ⟨gb127, 1, none⟩) (Kd.R_far (p := ⟨gb127, 0, none⟩) (Kd.R_types HO_8.out BK127.out (by decide)) (fun _ hk => hk.2) (.int .i64 ((rd_T39 l0 x46_2).f0))) (fun _ hk => hk.2) (.int .i64 ((rd_T39 l0 x46_2).f1))) (fun _ hk => hk.2) (.int .i64 ((rd_T39 l0 x46_2).f2))) (fun _ hk => trivial)⟩, ⟨by (with_reducible repeat (first | refine blk_drewN ?_ _ | refine blk_drew ?_ | refine blk_alloc ?_ _)); refine blk_put (cs := #[.int .i64 ((rd_T39 l0 x46_2).f0), .int .i64 ((rd_T39 l0 x46_2).f1), .int .i64 0]) ?_ 2 _ rfl; (with_reducible repeat (first | refine blk_drewN ?_ _ | refine blk_drew ?_ | refine blk_alloc ?_ _)); refine blk_put (cs := #[.int .i64 ((rd_T39 l0 x46_2).f0), .int .i64 0, .int .i64 0]) ?_ 1 _ rfl; (with_reducible repeat (first | refine blk_drewN ?_ _ | refine blk_drew ?_ | refine blk_alloc ?_ _)); refine blk_put (cs := #[.int .i64 0, .int .i64 0, .int .i64 0]) ?_ 0 _ rfl; (with_reducible repeat (first | refine blk_drewN ?_ _ | refine blk_drew ?_ | refine blk_alloc ?_ _)); exact BK127.out⟩, ⟨by repeat (first | (with_reducible first | exact HB.out | apply below_alloc | apply pw_below_drewN | apply below_drew1 | refine below_set ?_ GE127.out) | exact HB.out)⟩⟩
                      case rest =>
                        clear HC22
                        try clear c1
                        try clear p1
                        try clear q1
                        try clear hx1
                        try clear c2
                        try clear p2
                        try clear c5
                        try clear c5b0
                        try clear c6
                        try clear c6b0
                        try clear p6
                        try clear c7
                        try clear c7b0
                        try clear c8
                        try clear c8b0
                        try clear c9
                        try clear c9b0
                        try clear c9b1
                        try clear c10
                        try clear c12
                        try clear p12
                        try clear q12
                        try clear hx12
                        try clear c13
                        try clear c13b0
                        try clear c13b1
                        try clear c15
                        try clear c15b0
                        try clear c15b1
                        try clear c16
                        try clear c16b0
                        try clear c16b1
                        try clear c19
                        try clear c19b0
                        try clear c20
                        try clear c20b0
                        try clear c21
                        try clear c21b0
                        try clear c25
                        try clear c25b0
                        try clear hcz24_0
                        try clear hcz24_1
                        try clear hcz24_2
                        try clear hcz26_0
                        try clear hcz26_1
                        try clear hcz26_2
                        try clear hcz27_0
                        try clear hcz27_1
                        try clear hcz27_2
                        try clear hfz24_0
                        try clear hfz24_1
                        try clear hfz24_2
                        try clear hfz26_0
                        try clear hfz26_1
                        try clear hfz26_2
                        try clear hfz27_0
                        try clear hfz27_1
                        try clear hfz27_2
                        try clear hx126_0
                        try clear hx126_1
                        try clear hx126_2
                        try clear p126
                        try clear p2
                        try clear p6
                        try clear q126
                        obtain ⟨kq, x62_21, rfl, HA, HJ21, HO_8, BK127, HB⟩ := hcut
                        cases kq with
                        | zero => exact absurd HA.out (by simp [window_Many.j2])
                        | succ kj21 =>
                          have H := HA.out
                          clear HA
                          simp only [window_Many.j2] at H
                          by_cases c28 : x62_21 = true
                          · subst c28
                            have H1 : (some (([] : List Int), 1)) = some (r1, r2) := by rw [if_pos rfl] at H; exact H
                            clear H
                            have H := H1
                            clear H1
                            simp only [Option.some.injEq, Prod.mk.injEq] at H
                            obtain ⟨rfl, rfl⟩ := H
                            go_wp2
                            go_ret2
                            exact ⟨_, by first | rfl | (simp [errW_none, errW_some] <;> rfl) | (simp only [← hji14]; first | rfl | (simp [errW_none, errW_some] <;> rfl)) | (simp [*, errW_none, errW_some] <;> rfl), by first | exact Kd.R_nil _ _ _ _ _ | exact Kd.N_nil _ _ _ _ _ | exact Kd.V_nil _ _ _ _ _ | exact Kd.Q_nil _ _ _ _ _ | exact Kd.S_nil _ _ _ _ _, by repeat (first | (with_reducible first | exact HB.out | apply below_alloc | apply pw_below_drewN | apply below_drew1 | refine below_set ?_ GE127.out) | exact HB.out)⟩
                          · replace c28 := Bool.eq_false_iff.mpr c28
                            subst c28
                            have H1 : (if a2 = 0 then (none) else (window_Many.l1 kj21 a1 a2 x8_2 (wrap64 (Int.tdiv ((rd_T39 l0 x46_2).f0) a2)) l0 (l0.length : Int) x46_2 ((rd_T39 l0 x46_2).f0) ((rd_T39 l0 x46_2).f1) ((rd_T39 l0 x46_2).f2))) = some (r1, r2) := by rw [if_neg (show ¬ (false = true) by decide)] at H; exact H
                            clear H
                            have H := H1
                            clear H1
                            by_cases c29 : a2 = 0
                            · rw [if_pos c29] at H
                              exact absurd H (by simp)
                            · rw [if_neg c29] at H
                              have c29b0 : (a2 == 0) = false := beq_eq_false_iff_ne.mpr c29
                              have c29b1 : (a2 != 0) = true := bne_iff_ne.mpr c29
                              have H' := Aside0.mk H
                              clear H
                              have hcz30_0 : wc.cell? ⟨gb127, 0, none⟩ = some (.int .i64 ((rd_T39 l0 x46_2).f0)) := (blk_cell BK127.out 0).trans rfl
                              have hcz30_1 : wc.cell? ⟨gb127, 1, none⟩ = some (.int .i64 ((rd_T39 l0 x46_2).f1)) := (blk_cell BK127.out 1).trans rfl
                              have hcz30_2 : wc.cell? ⟨gb127, 2, none⟩ = some (.int .i64 ((rd_T39 l0 x46_2).f2)) := (blk_cell BK127.out 2).trans rfl
                              have hfz30_0 := blk_frozen BK127.out 0
                              have hfz30_1 := blk_frozen BK127.out 1
                              have hfz30_2 := blk_frozen BK127.out 2
                              go_wp2
                              go_loopg [11] kj21 (fun kq v11 w' => ∃ (x8_4 : List Int) (x11_4 : Int), v11 = .int .i64 x11_4 ∧ Aside0 (window_Many.l1 kq a1 a2 x8_4 x11_4 l0 (l0.length : Int) x46_2 ((rd_T39 l0 x46_2).f0) ((rd_T39 l0 x46_2).f1) ((rd_T39 l0 x46_2).f2) = some (r1, r2)) ∧ Aside0 (kq ≤ kj21) ∧ Aside0 (Kd.R (Kd.int .i64) 3 w' w.heap.size (fun _ => True) v124 x8_4) ∧ Aside0 (w'.heap[gb127]? = some (.cells #[.int .i64 ((rd_T39 l0 x46_2).f0), .int .i64 ((rd_T39 l0 x46_2).f1), .int .i64 ((rd_T39 l0 x46_2).f2)] 39 (0, 0))) ∧ Aside0 (Below w.heap.size w w'))
                              case atStart => exact ⟨(x8_2), (wrap64 (Int.tdiv ((rd_T39 l0 x46_2).f0) a2)), (by first | rfl | (simp; done) | (simp [*]; done)), H', ⟨Nat.le_refl _⟩, ⟨by (with_reducible repeat (first | apply Kd.R_alloc | apply Kd.R_drewN | apply Kd.R_drew)); exact HO_8.out⟩, ⟨by (with_reducible repeat (first | refine blk_drewN ?_ _ | refine blk_drew ?_ | refine blk_alloc ?_ _)); exact BK127.out⟩, ⟨by repeat (first | (with_reducible first | exact HB.out | apply below_alloc | apply pw_below_drewN | apply below_drew1 | refine below_set ?_ GE127.out) | exact HB.out)⟩⟩
                              case round =>
                                clear H'
                                try clear c1
                                try clear p1
                                try clear q1
                                try clear hx1
                                try clear c2
                                try clear p2
                                try clear c5
                                try clear c5b0
                                try clear c6
                                try clear c6b0
                                try clear p6
                                try clear c7
                                try clear c7b0
                                try clear c8
                                try clear c8b0
                                try clear c9
                                try clear c9b0
                                try clear c9b1
                                try clear c10
                                try clear c12
                                try clear p12
                                try clear q12
                                try clear hx12
                                try clear c13
                                try clear c13b0
                                try clear c13b1
                                try clear c15
                                try clear c15b0
                                try clear c15b1
                                try clear c16
                                try clear c16b0
                                try clear c16b1
                                try clear c19
                                try clear c19b0
                                try clear c20
                                try clear c20b0
                                try clear c21
                                try clear c21b0
                                try clear c25
                                try clear c25b0
                                try clear c28
                                try clear c29
                                try clear c29b0
                                try clear c29b1
                                try clear hcz24_0
                                try clear hcz24_1
                                try clear hcz24_2
                                try clear hcz26_0
                                try clear hcz26_1
                                try clear hcz26_2
                                try clear hcz27_0
                                try clear hcz27_1
                                try clear hcz27_2
                                try clear hcz30_0
                                try clear hcz30_1
                                try clear hcz30_2
                                try clear hfz24_0
                                try clear hfz24_1
                                try clear hfz24_2
                                try clear hfz26_0
                                try clear hfz26_1
                                try clear hfz26_2
                                try clear hfz27_0
                                try clear hfz27_1
                                try clear hfz27_2
                                try clear hfz30_0
                                try clear hfz30_1
                                try clear hfz30_2
                                try clear hx126_0
                                try clear hx126_1
                                try clear hx126_2
                                try clear p1
                                try clear p12
                                try clear p126
                                try clear p2
                                try clear p6
                                try clear q1
                                try clear q12
                                try clear q126
                                obtain ⟨x8_4, x11_4, rfl, HA, HK4, HO_8, BK127, HB⟩ := hrel
                                cases gk with
                                | zero => exact absurd HA.out (by simp [window_Many.l1])
                                | succ k4 =>
                                  have H := HA.out
                                  clear HA
                                  simp only [window_Many.l1] at H
                                  by_cases c31 : a2 = 0
                                  · rw [if_pos c31] at H
                                    exact absurd H (by simp)
                                  · rw [if_neg c31] at H
                                    have c31b0 : (a2 == 0) = false := beq_eq_false_iff_ne.mpr c31
                                    have c31b1 : (a2 != 0) = true := bne_iff_ne.mpr c31
                                    by_cases c32 : x11_4 ≤ (wrap64 (Int.tdiv (wrap64 ((wrap64 (((rd_T39 l0 x46_2).f0) + ((rd_T39 l0 x46_2).f1))) - 1)) a2))
                                    · rw [if_pos c32] at H
                                      have c32b0 : decide (x11_4 ≤ (wrap64 (Int.tdiv (wrap64 ((wrap64 (((rd_T39 l0 x46_2).f0) + ((rd_T39 l0 x46_2).f1))) - 1)) a2))) = true := decide_eq_true c32
                                      clear c32
                                      by_cases c33 : 0 ≤ x11_4
                                      · rw [if_pos c33] at H
                                        have c33b0 : decide (0 ≤ x11_4) = true := decide_eq_true c33
                                        clear c33
                                        by_cases c34 : x11_4 < (x8_4.length : Int)
                                        · rw [if_pos c34] at H
                                          have c34b0 : decide (x11_4 < (x8_4.length : Int)) = true := decide_eq_true c34
                                          clear c34
                                          obtain ⟨y129, hy129⟩ : ∃ y_ : List Int, y_ = (x8_4.set (x11_4 : Int).toNat (wrap64 ((rd x8_4 x11_4) + 1))) := ⟨_, rfl⟩
                                          replace H : (window_Many.l1 k4 a1 a2 y129 (wrap64 (x11_4 + 1)) l0 (l0.length : Int) x46_2 ((rd_T39 l0 x46_2).f0) ((rd_T39 l0 x46_2).f1) ((rd_T39 l0 x46_2).f2)) = some (r1, r2) := by first | (rw [hy129]; with_reducible exact H) | (have H2_ := (Option.bind_some _ _).symm.trans H; rw [hy129]; with_reducible exact H2_) | (have H2_ := (Option.bind_some _ _).symm.trans H; with_reducible exact H2_) | with_reducible exact H | (rw [hy129]; exact H) | exact H
                                          have Ny129 := Aside0.mk hy129
                                          clear hy129
                                          have H' := Aside0.mk H
                                          clear H
                                          have hcz36_0 : wr.cell? ⟨gb127, 0, none⟩ = some (.int .i64 ((rd_T39 l0 x46_2).f0)) := (blk_cell BK127.out 0).trans rfl
                                          have hcz36_1 : wr.cell? ⟨gb127, 1, none⟩ = some (.int .i64 ((rd_T39 l0 x46_2).f1)) := (blk_cell BK127.out 1).trans rfl
                                          have hcz36_2 : wr.cell? ⟨gb127, 2, none⟩ = some (.int .i64 ((rd_T39 l0 x46_2).f2)) := (blk_cell BK127.out 2).trans rfl
                                          have hfz36_0 := blk_frozen BK127.out 0
                                          have hfz36_1 := blk_frozen BK127.out 1
                                          have hfz36_2 := blk_frozen BK127.out 2
                                          obtain ⟨Ao37, co37, eo37⟩ := Kd.R_slice HO_8.out
                                          subst eo37
                                          have p128 : 0 ≤ (x11_4 : Int) := of_decide_eq_true (by with_reducible assumption)
                                          have q128 : x11_4 < (x8_4.length : Int) := of_decide_eq_true (by with_reducible assumption)
                                          obtain ⟨ad128, e128, hx128_0⟩ := Kd.at_int (Kd.R_reads' HO_8.out).2.2 x11_4 p128 q128
                                          cases e128
                                          replace p128 := eq_true p128
                                          replace q128 := eq_true q128
                                          have p35 : 0 ≤ (x11_4 : Int) := of_decide_eq_true (by with_reducible assumption)
                                          have q35 : (x11_4 : Int) < ((x8_4.length : Int) : Int) := of_decide_eq_true (by with_reducible assumption)
                                          obtain ⟨go35, co35, eo35, gb35, gl35, cl35, HG35⟩ := Kd.R_form HO_8.out (by omega)
                                          (first | cases eo35 | (injection eo35 with ea_ en_ ec_; (first | subst ea_ | (injection ea_ with ea_; subst ea_)); subst ec_; clear en_))
                                          have GB35 := Aside0.mk gb35
                                          have GG35 := Aside0.mk HG35
                                          clear gb35 gl35 HG35
                                          (first | simp only [add_plain] at hx128_0 | skip)
                                          obtain ⟨hx35_0, hf35_0⟩ := Kd.R_celln 0 HO_8.out (x11_4 : Int) p35 q35
                                          replace p35 := eq_true p35
                                          replace q35 := eq_true q35
                                          have HP38 := Kd.R_putg HO_8.out (x11_4 : Int) (wrap64 ((rd x8_4 x11_4) + 1))
                                          go_wp2_with (first | ((with_reducible refine gate_store (t := 3) (p := 84) rfl ?_); refine store_event (t := 3) (p := 84) (v := ?vo_w39) (w1 := (wr.setCell ⟨go35, (x11_4 : Int).toNat, none⟩ (.int .i64 (wrap64 ((rd x8_4 x11_4) + 1))))) ?hg ?ho ?hn ?hr ?_; (case ho => rfl); (case hg => rfl); (case hn => rfl); (case hr => first | (go_simp; done) | (go_simp; rfl)); intro w39 hw; have hg : wr.grownBy w39 (some go35) := (by rw [hw]; exact HP38.2); have hp_ : Kd.R (Kd.int .i64) 3 w39 w.heap.size (fun _ => True) (.slice (some ⟨go35, 0, none⟩) x8_4.length co37) y129 := (by rw [hw, Ny129.out]; exact HP38.1); clear HP38; have n0_ := Aside0.mk (hp_); have n1_ := Aside0.mk (blk_grown (g := gb127) (o := .cells #[.int .i64 ((rd_T39 l0 x46_2).f0), .int .i64 ((rd_T39 l0 x46_2).f1), .int .i64 ((rd_T39 l0 x46_2).f2)] 39 (0, 0)) (by (with_reducible repeat (first | refine blk_drewN ?_ _ | refine blk_drew ?_ | refine blk_alloc ?_ _)); exact BK127.out) hg (Kd.R_ne HO_8.out BK127.out (by decide))); have n2_ := Aside0.mk ((by rw [hw]; exact below_set (HB.out) GB35.out : Below w.heap.size w w39)); clear HO_8; clear BK127; clear HB; have HO_8 := n0_; have BK127 := n1_; have HB := n2_; clear n0_ n1_ n2_; clear hg hw hp_))
                                          go_roundg k4
                                          case measure => have := HJ3.out; have := HK2.out; have := HJ21.out; have := HK4.out; omega
                                          case rel => exact ⟨(y129), (wrap64 (x11_4 + 1)), (by first | rfl | (simp; done) | (simp [*]; done)), H', ⟨by have := HJ3.out; have := HK2.out; have := HJ21.out; have := HK4.out; omega⟩, ⟨by (with_reducible repeat (first | apply Kd.R_alloc | apply Kd.R_drewN | apply Kd.R_drew)); exact HO_8.out⟩, ⟨by (with_reducible repeat (first | refine blk_drewN ?_ _ | refine blk_drew ?_ | refine blk_alloc ?_ _)); exact BK127.out⟩, ⟨by repeat (first | (with_reducible first | exact HB.out | apply below_alloc | apply pw_below_drewN | apply below_drew1 | refine below_set ?_ GE127.out) | exact HB.out)⟩⟩
                                        · rw [if_neg c34] at H
                                          exact absurd H (by simp)
                                      · rw [if_neg c33] at H
                                        exact absurd H (by simp)
                                    · rw [if_neg c32] at H
                                      have c32b0 : decide (x11_4 ≤ (wrap64 (Int.tdiv (wrap64 ((wrap64 (((rd_T39 l0 x46_2).f0) + ((rd_T39 l0 x46_2).f1))) - 1)) a2))) = false := decide_eq_false c32
                                      clear c32
                                      have H' := Aside0.mk H
                                      clear H
                                      have hcz40_0 : wr.cell? ⟨gb127, 0, none⟩ = some (.int .i64 ((rd_T39 l0 x46_2).f0)) := (blk_cell BK127.out 0).trans rfl
                                      have hcz40_1 : wr.cell? ⟨gb127, 1, none⟩ = some (.int .i64 ((rd_T39 l0 x46_2).f1)) := (blk_cell BK127.out 1).trans rfl
                                      have hcz40_2 : wr.cell? ⟨gb127, 2, none⟩ = some (.int .i64 ((rd_T39 l0 x46_2).f2)) := (blk_cell BK127.out 2).trans rfl
                                      have hfz40_0 := blk_frozen BK127.out 0
                                      have hfz40_1 := blk_frozen BK127.out 1
                                      have hfz40_2 := blk_frozen BK127.out 2
                                      go_wp2
                                      go_roundg k4
                                      case measure => have := HJ3.out; have := HK2.out; have := HJ21.out; have := HK4.out; omega
                                      case rel => exact ⟨(x8_4), (wrap64 (x46_2 + 1)), (by first | rfl | (simp; done) | (simp [*]; done)), H', ⟨by have := HJ3.out; have := HK2.out; have := HJ21.out; have := HK4.out; omega⟩, ⟨by (with_reducible repeat (first | apply Kd.R_alloc | apply Kd.R_drewN | apply Kd.R_drew)); exact HO_8.out⟩, ⟨by repeat (first | (with_reducible first | exact HB.out | apply below_alloc | apply pw_below_drewN | apply below_drew1 | refine below_set ?_ GE127.out) | exact HB.out)⟩⟩
                    · rw [if_neg c21] at H
                      exact absurd H (by simp)
                  · rw [if_neg c20] at H
                    exact absurd H (by simp)
                · rw [if_neg c19] at H
                  have c19b0 : decide (x46_2 < (l0.length : Int)) = false := decide_eq_false c19
                  clear c19
                  simp only [Option.some.injEq, Prod.mk.injEq] at H
                  obtain ⟨rfl, rfl⟩ := H
                  go_wp2
                  go_ret2
                  exact ⟨_, by first | rfl | (simp [errW_none, errW_some] <;> rfl) | (simp only [← hji14]; first | rfl | (simp [errW_none, errW_some] <;> rfl)) | (simp [*, errW_none, errW_some] <;> rfl), by (with_reducible repeat (first | apply Kd.R_alloc | apply Kd.R_drewN | apply Kd.R_drew)); exact HO_8.out, by repeat with_reducible first | exact HB.out | apply below_alloc | apply pw_below_drewN | apply below_drew1⟩
          · rw [if_neg c16] at H
            exact absurd H (by simp)
        · rw [if_neg c15] at H
          exact absurd H (by simp)

/-! ### window_Richest: function 11 -/
def window_Richest.l0 : Nat → Int → Int → List Int → Int → List Int → Int → Int → Option (Int × Int × Int × Int)
  | 0, _, _, _, _, _, _, _ => none
  | k + 1, x1, x2, x10, x11, x24, x25, x26 => if x26 < x25 then (if 0 ≤ x26 then (if x26 < (x24.length : Int) then (if 0 ≤ x11 then (if x11 < (x10.length : Int) then (if (rd x24 x26) > (rd x10 x11) then (window_Richest.l0 k x1 x2 x10 x26 x24 x25 (wrap64 (x26 + 1))) else (window_Richest.l0 k x1 x2 x10 x11 x24 x25 (wrap64 (x26 + 1)))) else (none)) else (none)) else (none)) else (none)) else (if 0 ≤ x11 then (if x11 < (x10.length : Int) then (some (wrap64 (x11 * x2), mn x2 (wrap64 (x1 - (wrap64 (x11 * x2)))), rd x10 x11, 0)) else (none)) else (none))
def window_Richest.f (k : Nat) (l0 : List (S39)) (a1 : Int) (a2 : Int) : Option (Int × Int × Int × Int) := (window_Many.f k l0 a1 a2).bind fun bt130 => (if bt130.2 = 0 then (window_Richest.l0 k a1 a2 bt130.1 0 bt130.1 (bt130.1.length : Int) 0) else (some (0, 0, 0, bt130.2)))
theorem window_Richest.mono_l : ∀ k, (∀ y0 y1 y2 y3 y4 y5 y6, LeO (window_Richest.l0 k y0 y1 y2 y3 y4 y5 y6) (window_Richest.l0 (k + 1) y0 y1 y2 y3 y4 y5 y6))
  | 0 => fun _ _ _ _ _ _ _ r h => by simp [window_Richest.l0] at h
  | k + 1 => by
    have ih0 := window_Richest.mono_l k
    · intro y0 y1 y2 y3 y4 y5 y6
      unfold window_Richest.l0
      repeat' first
      | (with_reducible exact ih0 _ _ _ _ _ _ _)
      | (with_reducible exact window_Many.mono _ _ _ _)
      | (with_reducible exact LeO.refl _)
      | (with_reducible exact LeO.none _)
      | (with_reducible refine LeO.ite ?_ ?_)
      | (with_reducible refine LeO.bind ?_ (fun _ => ?_))
      | exact ih0 _ _ _ _ _ _ _
      | exact window_Many.mono _ _ _ _
      | exact LeO.none _
      | refine LeO.ite ?_ ?_
      | refine LeO.bind ?_ (fun _ => ?_)
theorem window_Richest.mono : ∀ a0 a1 a2 k, LeO (window_Richest.f k a0 a1 a2) (window_Richest.f (k + 1) a0 a1 a2) := by
  intro a0 a1 a2 k
  have ih0 := window_Richest.mono_l k
  unfold window_Richest.f
  repeat' first
      | (with_reducible exact ih0 _ _ _ _ _ _ _)
      | (with_reducible exact window_Many.mono _ _ _ _)
      | (with_reducible exact LeO.refl _)
      | (with_reducible exact LeO.none _)
      | (with_reducible refine LeO.ite ?_ ?_)
      | (with_reducible refine LeO.bind ?_ (fun _ => ?_))
      | exact ih0 _ _ _ _ _ _ _
      | exact window_Many.mono _ _ _ _
      | exact LeO.none _
      | refine LeO.ite ?_ ?_
      | refine LeO.bind ?_ (fun _ => ?_)
set_option maxHeartbeats 8000000 in
set_option maxRecDepth 100000 in
theorem window_Richest.calls (k : Nat) (A0 : Option Addr) (c0 : Nat) (l0 : List (S39)) (a1 : Int) (a2 : Int) (r1 : Int) (r2 : Int) (r3 : Int) (r4 : Int) (w : World) (hr0 : Kd.C k39 w A0 l0.length l0) (hc0 : l0.length ≤ c0) (h : window_Richest.f k l0 a1 a2 = some (r1, r2, r3, r4)) :
    Calls Try.prog 11 #[.slice A0 l0.length c0, .int .i64 a1, .int .i64 a2] w fun e w' => e = .returned (.tuple #[.int .i64 r1, .int .i64 r2, .int .i64 r3, .int .i64 r4]) ∧ Below w.heap.size w w' := by
 have HR0 := Aside0.mk hr0
 have HC0 := Aside0.mk hc0
 clear hr0 hc0
 have HB := Aside0.mk (Below.refl w.heap.size w)
 have H : ((window_Many.f k l0 a1 a2).bind fun bt130 => (if bt130.2 = 0 then (window_Richest.l0 k a1 a2 bt130.1 0 bt130.1 (bt130.1.length : Int) 0) else (some (0, 0, 0, bt130.2)))) = some (r1, r2, r3, r4) := h
 clear h
 replace H := Option.bind_eq_some_iff.mp H
 obtain ⟨⟨t130, t131⟩, A40, H⟩ := H
 replace H : (if t131 = 0 then (window_Richest.l0 k a1 a2 t130 0 t130 (t130.length : Int) 0) else (some (0, 0, 0, t131))) = some (r1, r2, r3, r4) := H
 have A4 := Aside0.mk A40
 clear A40
 by_cases c5 : t131 = 0
 {
 rw [if_pos c5] at H
 have c5b0 : (t131 == 0) = true := beq_iff_eq.mpr c5
 have c5b1 : (t131 != 0) = false := bne_eq_false_iff_eq.mpr c5
 clear c5
 have H' := Aside0.mk H
 clear H
 go_enter Try.func11, Try.ntmps11
 go_wp2_with (first | (go_at_call 10; (with_reducible refine (window_Many.calls k _ _ l0 a1 a2 t130 t131 _ ?side1 ?side2 A4.out).mono ?_); (case side1 => repeat (first | exact HR0.out | (with_reducible refine Kd.C_alloc ?_ _) | (with_reducible refine Kd.C_drewN ?_ _) | (with_reducible refine Kd.C_drew ?_))); (case side2 => exact HC0.out); rintro e w6 ⟨v132, rfl, ho0, hb⟩; have n0_ := Aside0.mk (Kd.R_lower ho0 (below_size (by repeat with_reducible first | exact HB.out | apply below_alloc | apply pw_below_drewN | apply below_drew1))); have n1_ := Aside0.mk (below_step (by repeat with_reducible first | exact HB.out | apply below_alloc | apply pw_below_drewN | apply below_drew1) hb); clear HB; have HO133 := n0_; have HB := n1_; clear n0_ n1_; (try clear hb); (try clear hb2); (try clear hk); (try clear hi); (try clear ho0); obtain ⟨Ao7, co7, eo7⟩ := Kd.R_slice HO133.out; subst eo7))
 repeat (go_quiet (first | (go_at_call 10; (with_reducible refine (window_Many.calls k _ _ l0 a1 a2 t130 t131 _ ?side1 ?side2 A4.out).mono ?_); (case side1 => repeat (first | exact HR0.out | (with_reducible refine Kd.C_alloc ?_ _) | (with_reducible refine Kd.C_drewN ?_ _) | (with_reducible refine Kd.C_drew ?_))); (case side2 => exact HC0.out); rintro e w6 ⟨v132, rfl, ho0, hb⟩; have n0_ := Aside0.mk (Kd.R_lower ho0 (below_size (by repeat with_reducible first | exact HB.out | apply below_alloc | apply pw_below_drewN | apply below_drew1))); have n1_ := Aside0.mk (below_step (by repeat with_reducible first | exact HB.out | apply below_alloc | apply pw_below_drewN | apply below_drew1) hb); clear HB; have HO133 := n0_; have HB := n1_; clear n0_ n1_; (try clear hb); (try clear hb2); (try clear hk); (try clear hi); (try clear ho0); obtain ⟨Ao7, co7, eo7⟩ := Kd.R_slice HO133.out; subst eo7)); try go_wp2_with (first | (go_at_call 10; (with_reducible refine (window_Many.calls k _ _ l0 a1 a2 t130 t131 _ ?side1 ?side2 A4.out).mono ?_); (case side1 => repeat (first | exact HR0.out | (with_reducible refine Kd.C_alloc ?_ _) | (with_reducible refine Kd.C_drewN ?_ _) | (with_reducible refine Kd.C_drew ?_))); (case side2 => exact HC0.out); rintro e w6 ⟨v132, rfl, ho0, hb⟩; have n0_ := Aside0.mk (Kd.R_lower ho0 (below_size (by repeat with_reducible first | exact HB.out | apply below_alloc | apply pw_below_drewN | apply below_drew1))); have n1_ := Aside0.mk (below_step (by repeat with_reducible first | exact HB.out | apply below_alloc | apply pw_below_drewN | apply below_drew1) hb); clear HB; have HO133 := n0_; have HB := n1_; clear n0_ n1_; (try clear hb); (try clear hb2); (try clear hk); (try clear hi); (try clear ho0); obtain ⟨Ao7, co7, eo7⟩ := Kd.R_slice HO133.out; subst eo7)))
 go_loopg [11, 26] k (fun kq v11 v26 w' => ∃ (x11_1 : Int) (x26_1 : Int), v11 = .int .i64 x11_1 ∧ v26 = .int .i64 x26_1 ∧ Aside0 (window_Richest.l0 kq a1 a2 t130 x11_1 t130 (t130.length : Int) x26_1 = some (r1, r2, r3, r4)) ∧ Aside0 (kq ≤ k) ∧ Aside0 (Kd.R (Kd.int .i64) 3 w' w.heap.size (fun _ => True) (.slice Ao7 t130.length co7) t130) ∧ Aside0 (Kd.R (Kd.int .i64) 3 w' w.heap.size (fun _ => True) (.slice Ao7 t130.length co7) t130) ∧ Aside0 (Below w.heap.size w w'))
 case atStart => exact ⟨(0), (0), (by first | rfl | (simp; done) | (simp [*]; done)), (by first | rfl | (simp; done) | (simp [*]; done)), H', ⟨Nat.le_refl _⟩, ⟨by (with_reducible repeat (first | apply Kd.R_alloc | apply Kd.R_drewN | apply Kd.R_drew)); exact HO133.out⟩, ⟨by (with_reducible repeat (first | apply Kd.R_alloc | apply Kd.R_drewN | apply Kd.R_drew)); exact HO133.out⟩, ⟨by repeat with_reducible first | exact HB.out | apply below_alloc | apply pw_below_drewN | apply below_drew1⟩⟩
 case round =>
  clear H'
  try clear c1
  try clear p2
  try clear c5
  try clear c5b0
  try clear c5b1
  obtain ⟨x11_1, x26_1, rfl, rfl, HA, HK1, HO_10, HO_24, HB⟩ := hrel
  cases gk with
  | zero => exact absurd HA.out (by simp [window_Richest.l0])
  | succ k1 =>
    have H := HA.out
    clear HA
    simp only [window_Richest.l0] at H
    by_cases c8 : x26_1 < (t130.length : Int)
    · rw [if_pos c8] at H
      have c8b0 : decide (x26_1 < (t130.length : Int)) = true := decide_eq_true c8
      clear c8
      by_cases c9 : 0 ≤ x26_1
      · rw [if_pos c9] at H
        have c9b0 : decide (0 ≤ x26_1) = true := decide_eq_true c9
        clear c9
        by_cases c10 : x26_1 < (t130.length : Int)
        · rw [if_pos c10] at H
          have c10b0 : decide (x26_1 < (t130.length : Int)) = true := decide_eq_true c10
          clear c10
          by_cases c11 : 0 ≤ x11_1
          · rw [if_pos c11] at H
            have c11b0 : decide (0 ≤ x11_1) = true := decide_eq_true c11
            clear c11
            by_cases c12 : x11_1 < (t130.length : Int)
            · rw [if_pos c12] at H
              have c12b0 : decide (x11_1 < (t130.length : Int)) = true := decide_eq_true c12
              clear c12
              by_cases c13 : (rd t130 x26_1) > (rd t130 x11_1)
              · rw [if_pos c13] at H
                have c13b0 : decide ((rd t130 x11_1) < (rd t130 x26_1)) = true := decide_eq_true c13
                clear c13
                have H' := Aside0.mk H
                clear H
                have p134 : 0 ≤ (x26_1 : Int) := of_decide_eq_true (by with_reducible assumption)
                have q134 : x26_1 < (t130.length : Int) := of_decide_eq_true (by with_reducible assumption)
                obtain ⟨ad134, e134, hx134_0⟩ := Kd.at_int (Kd.R_reads' HO_24.out).2.2 x26_1 p134 q134
                cases e134
                replace p134 := eq_true p134
                replace q134 := eq_true q134
                have p135 : 0 ≤ (x11_1 : Int) := of_decide_eq_true (by with_reducible assumption)
                have q135 : x11_1 < (t130.length : Int) := of_decide_eq_true (by with_reducible assumption)
                obtain ⟨ad135, e135, hx135_0⟩ := Kd.at_int (Kd.R_reads' HO_10.out).2.2 x11_1 p135 q135
                obtain rfl : ad134 = ad135 := (by injection e135)
                replace p135 := eq_true p135
                replace q135 := eq_true q135
                go_wp2
                repeat (go_quiet (fail); try go_wp2)
                go_roundg k1
                case measure => have := HK1.out; omega
                case rel => exact ⟨(x26_1), (wrap64 (x26_1 + 1)), (by first | rfl | (simp; done) | (simp [*]; done)), (by first | rfl | (simp; done) | (simp [*]; done)), H', ⟨by have := HK1.out; omega⟩, ⟨by (with_reducible repeat (first | apply Kd.R_alloc | apply Kd.R_drewN | apply Kd.R_drew)); exact HO_10.out⟩, ⟨by (with_reducible repeat (first | apply Kd.R_alloc | apply Kd.R_drewN | apply Kd.R_drew)); exact HO_24.out⟩, ⟨by repeat with_reducible first | exact HB.out | apply below_alloc | apply pw_below_drewN | apply below_drew1⟩⟩
              · rw [if_neg c13] at H
                have c13b0 : decide ((rd t130 x11_1) < (rd t130 x26_1)) = false := decide_eq_false c13
                clear c13
                have H' := Aside0.mk H
                clear H
                have p134 : 0 ≤ (x26_1 : Int) := of_decide_eq_true (by with_reducible assumption)
                have q134 : x26_1 < (t130.length : Int) := of_decide_eq_true (by with_reducible assumption)
                obtain ⟨ad134, e134, hx134_0⟩ := Kd.at_int (Kd.R_reads' HO_24.out).2.2 x26_1 p134 q134
                cases e134
                replace p134 := eq_true p134
                replace q134 := eq_true q134
                have p135 : 0 ≤ (x11_1 : Int) := of_decide_eq_true (by with_reducible assumption)
                have q135 : x11_1 < (t130.length : Int) := of_decide_eq_true (by with_reducible assumption)
                obtain ⟨ad135, e135, hx135_0⟩ := Kd.at_int (Kd.R_reads' HO_10.out).2.2 x11_1 p135 q135
                obtain rfl : ad134 = ad135 := (by injection e135)
                replace p135 := eq_true p135
                replace q135 := eq_true q135
                go_wp2
                repeat (go_quiet (fail); try go_wp2)
                go_roundg k1
                case measure => have := HK1.out; omega
                case rel => exact ⟨(x11_1), (wrap64 (x26_1 + 1)), (by first | rfl | (simp; done) | (simp [*]; done)), (by first | rfl | (simp; done) | (simp [*]; done)), H', ⟨by have := HK1.out; omega⟩, ⟨by (with_reducible repeat (first | apply Kd.R_alloc | apply Kd.R_drewN | apply Kd.R_drew)); exact HO_10.out⟩, ⟨by (with_reducible repeat (first | apply Kd.R_alloc | apply Kd.R_drewN | apply Kd.R_drew)); exact HO_24.out⟩, ⟨by repeat with_reducible first | exact HB.out | apply below_alloc | apply pw_below_drewN | apply below_drew1⟩⟩
            · rw [if_neg c12] at H
              exact absurd H (by simp)
          · rw [if_neg c11] at H
            exact absurd H (by simp)
        · rw [if_neg c10] at H
          exact absurd H (by simp)
      · rw [if_neg c9] at H
        exact absurd H (by simp)
    · rw [if_neg c8] at H
      have c8b0 : decide (x26_1 < (t130.length : Int)) = false := decide_eq_false c8
      clear c8
      obtain ⟨ji14, hji14⟩ : ∃ j_ : Int, (mn a2 (wrap64 (a1 - (wrap64 (x11_1 * a2))))) = j_ := ⟨_, rfl⟩
      replace H : (if 0 ≤ x11_1 then (if x11_1 < (t130.length : Int) then (some (wrap64 (x11_1 * a2), ji14, rd t130 x11_1, 0)) else (none)) else (none)) = some (r1, r2, r3, r4) := by first | (rw [hji14] at H; exact H) | (simp only [hji14] at H ⊢; exact H)
      have hji14_ : (if (wrap64 (a1 - (wrap64 (x11_1 * a2)))) < a2 then (wrap64 (a1 - (wrap64 (x11_1 * a2)))) else a2) = ji14 := hji14
      by_cases c15 : 0 ≤ x11_1
      · rw [if_pos c15] at H
        have c15b0 : decide (0 ≤ x11_1) = true := decide_eq_true c15
        clear c15
        by_cases c16 : x11_1 < (t130.length : Int)
        · rw [if_pos c16] at H
          have c16b0 : decide (x11_1 < (t130.length : Int)) = true := decide_eq_true c16
          clear c16
          simp only [Option.some.injEq, Prod.mk.injEq] at H
          obtain ⟨rfl, rfl, rfl, rfl⟩ := H
          have p136 : 0 ≤ (x11_1 : Int) := of_decide_eq_true (by with_reducible assumption)
          have q136 : x11_1 < (t130.length : Int) := of_decide_eq_true (by with_reducible assumption)
          obtain ⟨ad136, e136, hx136_0⟩ := Kd.at_int (Kd.R_reads' HO_10.out).2.2 x11_1 p136 q136
          cases e136
          replace p136 := eq_true p136
          replace q136 := eq_true q136
          go_wp2
          repeat (go_quiet (fail); try go_wp2)
          refine bodyPost_ret (results_list (rs := [.tmp 6, .tmp 7, .tmp 8, .tmp 9]) rfl (by simp) (.tmp (.tmp (.tmp (.tmp .nil))))) rfl ?_
          exact ⟨by first | rfl | (simp [errW_none, errW_some] <;> rfl) | (simp only [← hji14]; first | rfl | (simp [errW_none, errW_some] <;> rfl)) | (simp [*, errW_none, errW_some] <;> rfl), by repeat with_reducible first | exact HB.out | apply below_alloc | apply pw_below_drewN | apply below_drew1⟩
        · rw [if_neg c16] at H
          exact absurd H (by simp)
      · rw [if_neg c15] at H
        exact absurd H (by simp)
 }
 {
 rw [if_neg c5] at H
 have c5b0 : (t131 == 0) = false := beq_eq_false_iff_ne.mpr c5
 have c5b1 : (t131 != 0) = true := bne_iff_ne.mpr c5
 simp only [Option.some.injEq, Prod.mk.injEq] at H
 obtain ⟨rfl, rfl, rfl, rfl⟩ := H
 go_enter Try.func11, Try.ntmps11
 go_wp2_with (first | (go_at_call 10; (with_reducible refine (window_Many.calls k _ _ l0 a1 a2 t130 t131 _ ?side1 ?side2 A4.out).mono ?_); (case side1 => repeat (first | exact HR0.out | (with_reducible refine Kd.C_alloc ?_ _) | (with_reducible refine Kd.C_drewN ?_ _) | (with_reducible refine Kd.C_drew ?_))); (case side2 => exact HC0.out); rintro e w17 ⟨v132, rfl, ho0, hb⟩; have n0_ := Aside0.mk (Kd.R_lower ho0 (below_size (by repeat with_reducible first | exact HB.out | apply below_alloc | apply pw_below_drewN | apply below_drew1))); have n1_ := Aside0.mk (below_step (by repeat with_reducible first | exact HB.out | apply below_alloc | apply pw_below_drewN | apply below_drew1) hb); clear HB; have HO133 := n0_; have HB := n1_; clear n0_ n1_; (try clear hb); (try clear hb2); (try clear hk); (try clear hi); (try clear ho0)))
 repeat (go_quiet (first | (go_at_call 10; (with_reducible refine (window_Many.calls k _ _ l0 a1 a2 t130 t131 _ ?side1 ?side2 A4.out).mono ?_); (case side1 => repeat (first | exact HR0.out | (with_reducible refine Kd.C_alloc ?_ _) | (with_reducible refine Kd.C_drewN ?_ _) | (with_reducible refine Kd.C_drew ?_))); (case side2 => exact HC0.out); rintro e w17 ⟨v132, rfl, ho0, hb⟩; have n0_ := Aside0.mk (Kd.R_lower ho0 (below_size (by repeat with_reducible first | exact HB.out | apply below_alloc | apply pw_below_drewN | apply below_drew1))); have n1_ := Aside0.mk (below_step (by repeat with_reducible first | exact HB.out | apply below_alloc | apply pw_below_drewN | apply below_drew1) hb); clear HB; have HO133 := n0_; have HB := n1_; clear n0_ n1_; (try clear hb); (try clear hb2); (try clear hk); (try clear hi); (try clear ho0))); try go_wp2_with (first | (go_at_call 10; (with_reducible refine (window_Many.calls k _ _ l0 a1 a2 t130 t131 _ ?side1 ?side2 A4.out).mono ?_); (case side1 => repeat (first | exact HR0.out | (with_reducible refine Kd.C_alloc ?_ _) | (with_reducible refine Kd.C_drewN ?_ _) | (with_reducible refine Kd.C_drew ?_))); (case side2 => exact HC0.out); rintro e w17 ⟨v132, rfl, ho0, hb⟩; have n0_ := Aside0.mk (Kd.R_lower ho0 (below_size (by repeat with_reducible first | exact HB.out | apply below_alloc | apply pw_below_drewN | apply below_drew1))); have n1_ := Aside0.mk (below_step (by repeat with_reducible first | exact HB.out | apply below_alloc | apply pw_below_drewN | apply below_drew1) hb); clear HB; have HO133 := n0_; have HB := n1_; clear n0_ n1_; (try clear hb); (try clear hb2); (try clear hk); (try clear hi); (try clear ho0))))
 refine bodyPost_ret (results_list (rs := [.tmp 6, .tmp 7, .tmp 8, .tmp 9]) rfl (by simp) (.tmp (.tmp (.tmp (.tmp .nil))))) rfl ?_
 exact ⟨by first | rfl | (simp [errW_none, errW_some] <;> rfl) | (simp [*, errW_none, errW_some] <;> rfl), by repeat with_reducible first | exact HB.out | apply below_alloc | apply pw_below_drewN | apply below_drew1⟩
 }

end Go.Proofs.Ytigecigoomofdaa.PWindowTells
