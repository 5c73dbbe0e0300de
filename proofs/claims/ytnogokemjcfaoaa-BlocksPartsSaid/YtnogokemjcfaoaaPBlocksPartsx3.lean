-- By a program of this session (NOTES.md). Lean checks it.
import Derived.Test.YtnogokemjcfaoaaPBlocksPartsx0
import Derived.Test.YtnogokemjcfaoaaPBlocksPartsx2
namespace Go.Proofs.Ytnogokemjcfaoaa.PBlocksParts
open Go.RowKit Go.Proofs.YtnogokemjcfaoaaW.PrintWords Go.Proofs.YtnogokemjcfaoaaW.PrintLast Go.Proofs.YtnogokemjcfaoaaW.PrintMore
attribute [local go_sem] max2_int min2_int max_two min_two max_three min_three max_four min_four   -- for this text's walks alone
set_option linter.unusedVariables false
set_option linter.unusedSimpArgs false

/-! ### blocks_Valid: function 9 -/
mutual
def blocks_Valid.j0 : Nat → List (S35) → Int → Int → Bool → Option (List Int × Int)
  | 0, _, _, _, _ => none
  | k + 1, x0, x1, x2, x30 => if x30 = true then (some (([] : List Int), 1)) else (if 0 ≤ x1 then (if (x1 : Int).toNat ≤ 35184372088832 then (blocks_Valid.l0 k x1 x2 (List.replicate (x1 : Int).toNat 0) x0 (x0.length : Int) 0) else (none)) else (none))
def blocks_Valid.l0 : Nat → Int → Int → List Int → List (S35) → Int → Int → Option (List Int × Int)
  | 0, _, _, _, _, _, _ => none
  | k + 1, x1, x2, x8, x33, x34, x35 => if x35 < x34 then (if 0 ≤ x35 then (if x35 < (x33.length : Int) then (if ((rd_T35 x33 x35).f2) ≥ (wrap64 (x1 * x2)) then (blocks_Valid.j2 k x1 x2 x8 x33 x34 x35 true ((rd_T35 x33 x35).f0) ((rd_T35 x33 x35).f1) ((rd_T35 x33 x35).f2)) else (blocks_Valid.j2 k x1 x2 x8 x33 x34 x35 (decide (((rd_T35 x33 x35).f1) > (wrap64 ((wrap64 (x1 * x2)) - ((rd_T35 x33 x35).f2))))) ((rd_T35 x33 x35).f0) ((rd_T35 x33 x35).f1) ((rd_T35 x33 x35).f2))) else (none)) else (none)) else (some (x8, 0))
def blocks_Valid.j2 : Nat → Int → Int → List Int → List (S35) → Int → Int → Bool → Int → Int → Int → Option (List Int × Int)
  | 0, _, _, _, _, _, _, _, _, _, _ => none
  | k + 1, x1, x2, x8, x33, x34, x35, x55, x114000, x114001, x114002 => if x55 = true then (some (([] : List Int), 1)) else (blocks_Valid.l1 k x1 x2 x8 x33 x34 x35 x114001 0 x114000 x114001 x114002)
def blocks_Valid.l1 : Nat → Int → Int → List Int → List (S35) → Int → Int → Int → Int → Int → Int → Int → Option (List Int × Int)
  | 0, _, _, _, _, _, _, _, _, _, _, _ => none
  | k + 1, x1, x2, x8, x33, x34, x35, x57, x58, x114000, x114001, x114002 => if x58 < x57 then (if x2 = 0 then (none) else (if 0 ≤ (wrap64 (Int.tdiv (wrap64 (x114002 + x58)) x2)) then (if (wrap64 (Int.tdiv (wrap64 (x114002 + x58)) x2)) < (x8.length : Int) then (blocks_Valid.l1 k x1 x2 (x8.set ((wrap64 (Int.tdiv (wrap64 (x114002 + x58)) x2)) : Int).toNat (wrap64 ((rd x8 (wrap64 (Int.tdiv (wrap64 (x114002 + x58)) x2))) + 1))) x33 x34 x35 x57 (wrap64 (x58 + 1)) x114000 x114001 x114002) else (none)) else (none))) else (blocks_Valid.l0 k x1 x2 x8 x33 x34 (wrap64 (x35 + 1)))
end
def blocks_Valid.f (k : Nat) (l0 : List (S35)) (a1 : Int) (a2 : Int) : Option (List Int × Int) := if a1 < 1 then (blocks_Valid.j0 k l0 a1 a2 true) else (if a1 > 64 then (blocks_Valid.j0 k l0 a1 a2 true) else (if a2 < 1 then (blocks_Valid.j0 k l0 a1 a2 true) else (if a2 > 32 then (blocks_Valid.j0 k l0 a1 a2 true) else ((blocks_fits.f k l0).bind fun t108 => (blocks_Valid.j0 k l0 a1 a2 (!t108))))))
theorem blocks_Valid.mono_l : ∀ k, (∀ y0 y1 y2 y3, LeO (blocks_Valid.j0 k y0 y1 y2 y3) (blocks_Valid.j0 (k + 1) y0 y1 y2 y3)) ∧ (∀ y0 y1 y2 y3 y4 y5, LeO (blocks_Valid.l0 k y0 y1 y2 y3 y4 y5) (blocks_Valid.l0 (k + 1) y0 y1 y2 y3 y4 y5)) ∧ (∀ y0 y1 y2 y3 y4 y5 y6 y7 y8 y9, LeO (blocks_Valid.j2 k y0 y1 y2 y3 y4 y5 y6 y7 y8 y9) (blocks_Valid.j2 (k + 1) y0 y1 y2 y3 y4 y5 y6 y7 y8 y9)) ∧ (∀ y0 y1 y2 y3 y4 y5 y6 y7 y8 y9 y10, LeO (blocks_Valid.l1 k y0 y1 y2 y3 y4 y5 y6 y7 y8 y9 y10) (blocks_Valid.l1 (k + 1) y0 y1 y2 y3 y4 y5 y6 y7 y8 y9 y10))
  | 0 => ⟨fun _ _ _ _ r h => by simp [blocks_Valid.j0] at h, fun _ _ _ _ _ _ r h => by simp [blocks_Valid.l0] at h, fun _ _ _ _ _ _ _ _ _ _ r h => by simp [blocks_Valid.j2] at h, fun _ _ _ _ _ _ _ _ _ _ _ r h => by simp [blocks_Valid.l1] at h⟩
  | k + 1 => by
    obtain ⟨ih0, ih1, ih2, ih3⟩ := blocks_Valid.mono_l k
    refine ⟨?_, ?_, ?_, ?_⟩
    · intro y0 y1 y2 y3
      unfold blocks_Valid.j0
      repeat' first
      | (with_reducible exact ih0 _ _ _ _)
      | (with_reducible exact ih1 _ _ _ _ _ _)
      | (with_reducible exact ih2 _ _ _ _ _ _ _ _ _ _)
      | (with_reducible exact ih3 _ _ _ _ _ _ _ _ _ _ _)
      | (with_reducible exact blocks_fits.mono _ _)
      | (with_reducible exact LeO.refl _)
      | (with_reducible exact LeO.none _)
      | (with_reducible refine LeO.ite ?_ ?_)
      | (with_reducible refine LeO.bind ?_ (fun _ => ?_))
      | exact ih0 _ _ _ _
      | exact ih1 _ _ _ _ _ _
      | exact ih2 _ _ _ _ _ _ _ _ _ _
      | exact ih3 _ _ _ _ _ _ _ _ _ _ _
      | exact blocks_fits.mono _ _
      | exact LeO.none _
      | refine LeO.ite ?_ ?_
      | refine LeO.bind ?_ (fun _ => ?_)
    · intro y0 y1 y2 y3 y4 y5
      unfold blocks_Valid.l0
      repeat' first
      | (with_reducible exact ih0 _ _ _ _)
      | (with_reducible exact ih1 _ _ _ _ _ _)
      | (with_reducible exact ih2 _ _ _ _ _ _ _ _ _ _)
      | (with_reducible exact ih3 _ _ _ _ _ _ _ _ _ _ _)
      | (with_reducible exact blocks_fits.mono _ _)
      | (with_reducible exact LeO.refl _)
      | (with_reducible exact LeO.none _)
      | (with_reducible refine LeO.ite ?_ ?_)
      | (with_reducible refine LeO.bind ?_ (fun _ => ?_))
      | exact ih0 _ _ _ _
      | exact ih1 _ _ _ _ _ _
      | exact ih2 _ _ _ _ _ _ _ _ _ _
      | exact ih3 _ _ _ _ _ _ _ _ _ _ _
      | exact blocks_fits.mono _ _
      | exact LeO.none _
      | refine LeO.ite ?_ ?_
      | refine LeO.bind ?_ (fun _ => ?_)
    · intro y0 y1 y2 y3 y4 y5 y6 y7 y8 y9
      unfold blocks_Valid.j2
      repeat' first
      | (with_reducible exact ih0 _ _ _ _)
      | (with_reducible exact ih1 _ _ _ _ _ _)
      | (with_reducible exact ih2 _ _ _ _ _ _ _ _ _ _)
      | (with_reducible exact ih3 _ _ _ _ _ _ _ _ _ _ _)
      | (with_reducible exact blocks_fits.mono _ _)
      | (with_reducible exact LeO.refl _)
      | (with_reducible exact LeO.none _)
      | (with_reducible refine LeO.ite ?_ ?_)
      | (with_reducible refine LeO.bind ?_ (fun _ => ?_))
      | exact ih0 _ _ _ _
      | exact ih1 _ _ _ _ _ _
      | exact ih2 _ _ _ _ _ _ _ _ _ _
      | exact ih3 _ _ _ _ _ _ _ _ _ _ _
      | exact blocks_fits.mono _ _
      | exact LeO.none _
      | refine LeO.ite ?_ ?_
      | refine LeO.bind ?_ (fun _ => ?_)
    · intro y0 y1 y2 y3 y4 y5 y6 y7 y8 y9 y10
      unfold blocks_Valid.l1
      repeat' first
      | (with_reducible exact ih0 _ _ _ _)
      | (with_reducible exact ih1 _ _ _ _ _ _)
      | (with_reducible exact ih2 _ _ _ _ _ _ _ _ _ _)
      | (with_reducible exact ih3 _ _ _ _ _ _ _ _ _ _ _)
      | (with_reducible exact blocks_fits.mono _ _)
      | (with_reducible exact LeO.refl _)
      | (with_reducible exact LeO.none _)
      | (with_reducible refine LeO.ite ?_ ?_)
      | (with_reducible refine LeO.bind ?_ (fun _ => ?_))
      | exact ih0 _ _ _ _
      | exact ih1 _ _ _ _ _ _
      | exact ih2 _ _ _ _ _ _ _ _ _ _
      | exact ih3 _ _ _ _ _ _ _ _ _ _ _
      | exact blocks_fits.mono _ _
      | exact LeO.none _
      | refine LeO.ite ?_ ?_
      | refine LeO.bind ?_ (fun _ => ?_)
theorem blocks_Valid.mono : ∀ a0 a1 a2 k, LeO (blocks_Valid.f k a0 a1 a2) (blocks_Valid.f (k + 1) a0 a1 a2) := by
  intro a0 a1 a2 k
  obtain ⟨ih0, ih1, ih2, ih3⟩ := blocks_Valid.mono_l k
  unfold blocks_Valid.f
  repeat' first
      | (with_reducible exact ih0 _ _ _ _)
      | (with_reducible exact ih1 _ _ _ _ _ _)
      | (with_reducible exact ih2 _ _ _ _ _ _ _ _ _ _)
      | (with_reducible exact ih3 _ _ _ _ _ _ _ _ _ _ _)
      | (with_reducible exact blocks_fits.mono _ _)
      | (with_reducible exact LeO.refl _)
      | (with_reducible exact LeO.none _)
      | (with_reducible refine LeO.ite ?_ ?_)
      | (with_reducible refine LeO.bind ?_ (fun _ => ?_))
      | exact ih0 _ _ _ _
      | exact ih1 _ _ _ _ _ _
      | exact ih2 _ _ _ _ _ _ _ _ _ _
      | exact ih3 _ _ _ _ _ _ _ _ _ _ _
      | exact blocks_fits.mono _ _
      | exact LeO.none _
      | refine LeO.ite ?_ ?_
      | refine LeO.bind ?_ (fun _ => ?_)
set_option maxHeartbeats 8000000 in
set_option maxRecDepth 100000 in
theorem blocks_Valid.calls (k : Nat) (A0 : Option Addr) (c0 : Nat) (l0 : List (S35)) (a1 : Int) (a2 : Int) (r1 : List Int) (r2 : Int) (w : World) (hr0 : Kd.C k35 w A0 l0.length l0) (hc0 : l0.length ≤ c0) (h : blocks_Valid.f k l0 a1 a2 = some (r1, r2)) :
    Calls Try.prog 9 #[.slice A0 l0.length c0, .int .i64 a1, .int .i64 a2] w fun e w' => ∃ v0_ : Value, e = .returned (.tuple #[v0_, .int .i64 r2]) ∧ Kd.R (Kd.int .i64) 3 w' w.heap.size (fun _ => True) v0_ r1 ∧ Below w.heap.size w w' := by
  have hu35 := Try.underlying35
  have HR0 := Aside0.mk hr0
  have HC0 := Aside0.mk hc0
  clear hr0 hc0
  have HB := Aside0.mk (Below.refl w.heap.size w)
  have H : (if a1 < 1 then (blocks_Valid.j0 k l0 a1 a2 true) else (if a1 > 64 then (blocks_Valid.j0 k l0 a1 a2 true) else (if a2 < 1 then (blocks_Valid.j0 k l0 a1 a2 true) else (if a2 > 32 then (blocks_Valid.j0 k l0 a1 a2 true) else ((blocks_fits.f k l0).bind fun t108 => (blocks_Valid.j0 k l0 a1 a2 (!t108))))))) = some (r1, r2) := h
  clear h
  have HC4 := Aside0.mk H
  clear H
  go_enter Try.func9, Try.ntmps9
  go_upto_region 1 with (fail)
  go_cut [30] (fun v30 wc => ∃ (kq : Nat) (x30_3 : Bool), v30 = .bool x30_3 ∧ Aside0 (blocks_Valid.j0 kq l0 a1 a2 x30_3 = some (r1, r2)) ∧ Aside0 (kq ≤ k) ∧ Aside0 (Below w.heap.size w wc))
  case first =>
    have H := HC4.out
    clear HC4
    by_cases c5 : a1 < 1
    · rw [if_pos c5] at H
      have c5b0 : decide (a1 < 1) = true := decide_eq_true c5
      clear c5
      (first | rw [c5b0] | (simp only [i64_w, i32_w]; rw [c5b0]) | skip)
      have H' := Aside0.mk H
      clear H
      go_wp2
      go_meet
      case rel => exact ⟨_, (true), (by first | rfl | (simp; done) | (simp [*]; done)), H', ⟨by first | omega | exact Nat.le_refl _⟩, ⟨by repeat (first | (with_reducible first | exact HB.out | apply below_alloc | apply pw_below_drewN | apply below_drew1) | exact HB.out)⟩⟩
    · rw [if_neg c5] at H
      have c5b0 : decide (a1 < 1) = false := decide_eq_false c5
      clear c5
      (first | rw [c5b0] | (simp only [i64_w, i32_w]; rw [c5b0]) | skip)
      by_cases c6 : a1 > 64
      · rw [if_pos c6] at H
        have c6b0 : decide (64 < a1) = true := decide_eq_true c6
        clear c6
        have H' := Aside0.mk H
        clear H
        go_wp2
        go_meet
        case rel => exact ⟨_, (true), (by first | rfl | (simp; done) | (simp [*]; done)), H', ⟨by first | omega | exact Nat.le_refl _⟩, ⟨by repeat (first | (with_reducible first | exact HB.out | apply below_alloc | apply pw_below_drewN | apply below_drew1) | exact HB.out)⟩⟩
      · rw [if_neg c6] at H
        have c6b0 : decide (64 < a1) = false := decide_eq_false c6
        clear c6
        by_cases c7 : a2 < 1
        · rw [if_pos c7] at H
          have c7b0 : decide (a2 < 1) = true := decide_eq_true c7
          clear c7
          have H' := Aside0.mk H
          clear H
          go_wp2
          go_meet
          case rel => exact ⟨_, (true), (by first | rfl | (simp; done) | (simp [*]; done)), H', ⟨by first | omega | exact Nat.le_refl _⟩, ⟨by repeat (first | (with_reducible first | exact HB.out | apply below_alloc | apply pw_below_drewN | apply below_drew1) | exact HB.out)⟩⟩
        · rw [if_neg c7] at H
          have c7b0 : decide (a2 < 1) = false := decide_eq_false c7
          clear c7
          by_cases c8 : a2 > 32
          · rw [if_pos c8] at H
            have c8b0 : decide (32 < a2) = true := decide_eq_true c8
            clear c8
            have H' := Aside0.mk H
            clear H
            go_wp2
            go_meet
            case rel => exact ⟨_, (true), (by first | rfl | (simp; done) | (simp [*]; done)), H', ⟨by first | omega | exact Nat.le_refl _⟩, ⟨by repeat (first | (with_reducible first | exact HB.out | apply below_alloc | apply pw_below_drewN | apply below_drew1) | exact HB.out)⟩⟩
          · rw [if_neg c8] at H
            have c8b0 : decide (32 < a2) = false := decide_eq_false c8
            clear c8
            replace H := Option.bind_eq_some_iff.mp H
            obtain ⟨t108, A90, H⟩ := H
            replace H : (blocks_Valid.j0 k l0 a1 a2 (!t108)) = some (r1, r2) := H
            have A9 := Aside0.mk A90
            clear A90
            have H' := Aside0.mk H
            clear H
            go_wp2_with (first | (go_at_call 21; (with_reducible refine (blocks_fits.calls k _ _ l0 t108 _ ?side1 ?side2 A9.out).mono ?_); (case side1 => repeat (first | exact (Kd.C_below HR0.out HB.out) | (with_reducible refine Kd.C_alloc ?_ _) | (with_reducible refine Kd.C_drewN ?_ _) | (with_reducible refine Kd.C_drew ?_))); (case side2 => exact HC0.out); rintro e w10 ⟨rfl, hb⟩; have n0_ := Aside0.mk (below_step (by repeat (first | (with_reducible first | exact HB.out | apply below_alloc | apply pw_below_drewN | apply below_drew1) | exact HB.out)) hb); clear HB; have HB := n0_; clear n0_; (try clear hb); (try clear hb2); (try clear hk); (try clear hi)))
            go_meet
            case rel => exact ⟨_, (!t108), (by first | rfl | (simp; done) | (simp [*]; done)), H', ⟨by first | omega | exact Nat.le_refl _⟩, ⟨by repeat (first | (with_reducible first | exact HB.out | apply below_alloc | apply pw_below_drewN | apply below_drew1) | exact HB.out)⟩⟩
  case rest =>
    clear HC4
    try clear p2
    try clear c5
    try clear c5b0
    try clear c6
    try clear c6b0
    try clear c7
    try clear c7b0
    try clear c8
    try clear c8b0
    try clear c9
    obtain ⟨kq, x30_3, rfl, HA, HJ3, HB⟩ := hcut
    cases kq with
    | zero => exact absurd HA.out (by simp [blocks_Valid.j0])
    | succ kj3 =>
      have H := HA.out
      clear HA
      simp only [blocks_Valid.j0] at H
      by_cases c11 : x30_3 = true
      · subst c11
        have H1 : (some (([] : List Int), 1)) = some (r1, r2) := by rw [if_pos rfl] at H; exact H
        clear H
        have H := H1
        clear H1
        simp only [Option.some.injEq, Prod.mk.injEq] at H
        obtain ⟨rfl, rfl⟩ := H
        go_wp2
        go_ret2
        exact ⟨_, by first | rfl | (simp [errW_none, errW_some] <;> rfl) | (simp [*, errW_none, errW_some] <;> rfl), by first | exact Kd.R_nil _ _ _ _ _ | exact Kd.N_nil _ _ _ _ _ | exact Kd.V_nil _ _ _ _ _ | exact Kd.Q_nil _ _ _ _ _ | exact Kd.S_nil _ _ _ _ _, by repeat (first | (with_reducible first | exact HB.out | apply below_alloc | apply pw_below_drewN | apply below_drew1) | exact HB.out)⟩
      · replace c11 := Bool.eq_false_iff.mpr c11
        subst c11
        have H1 : (if 0 ≤ a1 then (if (a1 : Int).toNat ≤ 35184372088832 then (blocks_Valid.l0 kj3 a1 a2 (List.replicate (a1 : Int).toNat 0) l0 (l0.length : Int) 0) else (none)) else (none)) = some (r1, r2) := by rw [if_neg (show ¬ (false = true) by decide)] at H; exact H
        clear H
        have H := H1
        clear H1
        by_cases c12 : 0 ≤ a1
        · rw [if_pos c12] at H
          have c12b0 := eq_true c12
          have c12b1 : decide (0 ≤ a1) = true := decide_eq_true c12
          clear c12
          by_cases c13 : (a1 : Int).toNat ≤ 35184372088832
          · rw [if_pos c13] at H
            have c13b0 := eq_true c13
            have c13b1 : decide ((a1 : Int).toNat ≤ 35184372088832) = true := decide_eq_true c13
            clear c13
            obtain ⟨y109, hy109⟩ : ∃ y_ : List Int, y_ = (List.replicate (a1 : Int).toNat 0) := ⟨_, rfl⟩
            replace H : (blocks_Valid.l0 kj3 a1 a2 y109 l0 (l0.length : Int) 0) = some (r1, r2) := by first | (rw [hy109]; with_reducible exact H) | (have H2_ := (Option.bind_some _ _).symm.trans H; rw [hy109]; with_reducible exact H2_) | (have H2_ := (Option.bind_some _ _).symm.trans H; with_reducible exact H2_) | with_reducible exact H | (rw [hy109]; exact H) | exact H
            have Ny109 := Aside0.mk hy109
            clear hy109
            have H' := Aside0.mk H
            clear H
            go_wp2_with (first | ((with_reducible refine gate_dst (N := 32) rfl ?_); refine Kd.R_make (Kd.int .i64) _ 3 rfl (N := 32) rfl 23 _ _ rfl a1 rfl rfl Try.underlying23 (.int .i64 0) 8 info3 rfl (by decide) (by omega) 0 (ok := fun _ => True) (okp := fun _ => True) rfl (fun _ hk => hk) trivial (of_decide_eq_true (by first | (with_reducible assumption) | assumption)) (Nat.le_trans (Nat.mul_le_mul_right _ (of_decide_eq_true (by first | (with_reducible assumption) | assumption) : a1.toNat ≤ 35184372088832)) (by omega)) (Below.refl _ _) (Nat.le_refl _) ?_; intro v110 w14 ho15 hb hg_ hnew_; clear hg_ hnew_; (first | rw [← Ny109.out] at ho15 | (simp only [Int.reduceToNat] at ho15; rw [← Ny109.out] at ho15)); have n0_ := Aside0.mk (Kd.R_lower ho15 (below_size (by repeat (first | (with_reducible first | exact HB.out | apply below_alloc | apply pw_below_drewN | apply below_drew1) | exact HB.out)))); have n1_ := Aside0.mk (below_step (by repeat (first | (with_reducible first | exact HB.out | apply below_alloc | apply pw_below_drewN | apply below_drew1) | exact HB.out)) hb); clear HB; have HO111 := n0_; have HB := n1_; clear n0_ n1_; clear hb ho15))
            go_loopg [35] kj3 (fun kq v35 w' => ∃ (x8_2 : List Int) (x35_2 : Int), v35 = .int .i64 x35_2 ∧ Aside0 (blocks_Valid.l0 kq a1 a2 x8_2 l0 (l0.length : Int) x35_2 = some (r1, r2)) ∧ Aside0 (kq ≤ kj3) ∧ Aside0 (Kd.R (Kd.int .i64) 3 w' w.heap.size (fun _ => True) v110 x8_2) ∧ Aside0 (Below w.heap.size w w'))
            case atStart => exact ⟨(y109), (0), (by first | rfl | (simp; done) | (simp [*]; done)), H', ⟨Nat.le_refl _⟩, ⟨by (with_reducible repeat (first | apply Kd.R_alloc | apply Kd.R_drewN | apply Kd.R_drew)); exact HO111.out⟩, ⟨by repeat (first | (with_reducible first | exact HB.out | apply below_alloc | apply pw_below_drewN | apply below_drew1) | exact HB.out)⟩⟩
            case round =>
              clear H'
              try clear c1
              try clear p2
              try clear c5
              try clear c5b0
              try clear c6
              try clear c6b0
              try clear c7
              try clear c7b0
              try clear c8
              try clear c8b0
              try clear c9
              try clear c11
              try clear c12
              try clear c12b0
              try clear c12b1
              try clear c13
              try clear c13b0
              try clear c13b1
              try clear p2
              obtain ⟨x8_2, x35_2, rfl, HA, HK2, HO_8, HB⟩ := hrel
              cases gk with
              | zero => exact absurd HA.out (by simp [blocks_Valid.l0])
              | succ k2 =>
                have H := HA.out
                clear HA
                simp only [blocks_Valid.l0] at H
                by_cases c16 : x35_2 < (l0.length : Int)
                · rw [if_pos c16] at H
                  have c16b0 : decide (x35_2 < (l0.length : Int)) = true := decide_eq_true c16
                  clear c16
                  by_cases c17 : 0 ≤ x35_2
                  · rw [if_pos c17] at H
                    have c17b0 : decide (0 ≤ x35_2) = true := decide_eq_true c17
                    clear c17
                    by_cases c18 : x35_2 < (l0.length : Int)
                    · rw [if_pos c18] at H
                      have c18b0 : decide (x35_2 < (l0.length : Int)) = true := decide_eq_true c18
                      clear c18
                      have HC19 := Aside0.mk H
                      clear H
                      have p112 : 0 ≤ (x35_2 : Int) := of_decide_eq_true (by first | (with_reducible assumption) | assumption)
                      have q112 : x35_2 < (l0.length : Int) := of_decide_eq_true (by first | (with_reducible assumption) | assumption)
                      obtain ⟨ad112, e112, hx112_0, hx112_1, hx112_2⟩ := at_T35 HR0.out x35_2 p112 q112
                      cases e112
                      replace hx112_0 := (HB.out.cell (World.block_lt_of_cell? w _ hx112_0)).trans hx112_0
                      replace hx112_1 := (HB.out.cell (World.block_lt_of_cell? w _ hx112_1)).trans hx112_1
                      replace hx112_2 := (HB.out.cell (World.block_lt_of_cell? w _ hx112_2)).trans hx112_2
                      replace p112 := eq_true p112
                      replace q112 := eq_true q112
                      go_upto_region 7 with (first | ((with_reducible refine gate_dst (N := 10) rfl ?_); refine box_event ?hg (N := 10) ?hd (cs := #[.int .i64 0, .int .i64 0, .int .i64 0]) (t := 35) ?hr ?_; (case hd => rfl); (case hg => rfl); (case hr => first | (go_simp; done) | (go_simp; rfl)); intro gb113 hg w20 hbox hb; have n0_ := Aside0.mk (Kd.R_below (by (with_reducible repeat (first | apply Kd.R_alloc | apply Kd.R_drewN | apply Kd.R_drew)); exact HO_8.out) hb); have n1_ := Aside0.mk (below_step (by repeat (first | (with_reducible first | exact HB.out | apply below_alloc | apply pw_below_drewN | apply below_drew1) | exact HB.out)) hb); have n2_ := Aside0.mk (hbox); have n3_ := Aside0.mk ((by rw [hg]; exact (below_size (by repeat (first | (with_reducible first | exact HB.out | apply below_alloc | apply pw_below_drewN | apply below_drew1) | exact HB.out))) : w.heap.size ≤ gb113)); have n4_ := Aside0.mk ((by rw [hg]; exact (below_size (by repeat (first | (with_reducible first | exact HB.out | apply below_alloc | apply pw_below_drewN | apply below_drew1) | exact HB.out))) : w.heap.size ≤ gb113)); clear HO_8; clear HB; have HO_8 := n0_; have HB := n1_; have BK113 := n2_; have GW113 := n3_; have GE113 := n4_; clear n0_ n1_ n2_ n3_ n4_; clear hb hbox hg; have hcz21_0 : w20.cell? ⟨gb113, 0, none⟩ = some (.int .i64 0) := (blk_cell BK113.out 0).trans rfl; have hcz21_1 : w20.cell? ⟨gb113, 1, none⟩ = some (.int .i64 0) := (blk_cell BK113.out 1).trans rfl; have hcz21_2 : w20.cell? ⟨gb113, 2, none⟩ = some (.int .i64 0) := (blk_cell BK113.out 2).trans rfl; have hfz21_0 := blk_frozen BK113.out 0; have hfz21_1 := blk_frozen BK113.out 1; have hfz21_2 := blk_frozen BK113.out 2))
                      (try simp only [Act.put, List.setIfInBounds_toArray, List.set_cons_zero, List.set_cons_succ])
                      go_cut [55] (fun v55 wc => ∃ (kq : Nat) (x55_18 : Bool), v55 = .bool x55_18 ∧ Aside0 (blocks_Valid.j2 kq a1 a2 x8_2 l0 (l0.length : Int) x35_2 x55_18 ((rd_T35 l0 x35_2).f0) ((rd_T35 l0 x35_2).f1) ((rd_T35 l0 x35_2).f2) = some (r1, r2)) ∧ Aside0 (kq ≤ k2) ∧ Aside0 (Kd.R (Kd.int .i64) 3 wc w.heap.size (fun _ => True) v110 x8_2) ∧ Aside0 (wc.heap[gb113]? = some (.cells #[.int .i64 ((rd_T35 l0 x35_2).f0), .int .i64 ((rd_T35 l0 x35_2).f1), .int .i64 ((rd_T35 l0 x35_2).f2)] 35 (0, 0))) ∧ Aside0 (Below w.heap.size w wc))
                      case first =>
                        have H := HC19.out
                        clear HC19
                        by_cases c22 : ((rd_T35 l0 x35_2).f2) ≥ (wrap64 (a1 * a2))
                        · rw [if_pos c22] at H
                          have c22b0 : decide ((wrap64 (a1 * a2)) ≤ ((rd_T35 l0 x35_2).f2)) = true := decide_eq_true c22
                          clear c22
                          (first | rw [c22b0] | (simp only [i64_w, i32_w]; rw [c22b0]) | skip)
                          have H' := Aside0.mk H
                          clear H
                          have hcz23_0 : w20.cell? ⟨gb113, 0, none⟩ = some (.int .i64 0) := (blk_cell BK113.out 0).trans rfl
                          have hcz23_1 : w20.cell? ⟨gb113, 1, none⟩ = some (.int .i64 0) := (blk_cell BK113.out 1).trans rfl
                          have hcz23_2 : w20.cell? ⟨gb113, 2, none⟩ = some (.int .i64 0) := (blk_cell BK113.out 2).trans rfl
                          have hfz23_0 := blk_frozen BK113.out 0
                          have hfz23_1 := blk_frozen BK113.out 1
                          have hfz23_2 := blk_frozen BK113.out 2
                          go_wp2
                          go_meet
                          case rel => exact ⟨_, (true), (by first | rfl | (simp; done) | (simp [*]; done)), H', ⟨by have := HJ3.out; have := HK2.out; first | omega | exact Nat.le_refl _⟩, ⟨by (with_reducible repeat (first | apply Kd.R_alloc | apply Kd.R_drewN | apply Kd.R_drew)); exact Kd.R_mono (Kd.R_far (p := ⟨gb113, 2, none⟩) (Kd.R_far (p := ⟨gb113, 1, none⟩) (Kd.R_far (p := ⟨gb113, 0, none⟩) (Kd.R_types HO_8.out BK113.out (by decide)) (fun _ hk => hk.2) (.int .i64 ((rd_T35 l0 x35_2).f0))) (fun _ hk => hk.2) (.int .i64 ((rd_T35 l0 x35_2).f1))) (fun _ hk => hk.2) (.int .i64 ((rd_T35 l0 x35_2).f2))) (fun _ hk => trivial)⟩, ⟨by (with_reducible repeat (first | refine blk_drewN ?_ _ | refine blk_drew ?_ | refine blk_alloc ?_ _)); refine blk_put (cs := #[.int .i64 ((rd_T35 l0 x35_2).f0), .int .i64 ((rd_T35 l0 x35_2).f1), .int .i64 0]) ?_ 2 _ rfl; (with_reducible repeat (first | refine blk_drewN ?_ _ | refine blk_drew ?_ | refine blk_alloc ?_ _)); refine blk_put (cs := #[.int .i64 ((rd_T35 l0 x35_2).f0), .int .i64 0, .int .i64 0]) ?_ 1 _ rfl; (with_reducible repeat (first | refine blk_drewN ?_ _ | refine blk_drew ?_ | refine blk_alloc ?_ _)); refine blk_put (cs := #[.int .i64 0, .int .i64 0, .int .i64 0]) ?_ 0 _ rfl; (with_reducible repeat (first | refine blk_drewN ?_ _ | refine blk_drew ?_ | refine blk_alloc ?_ _)); exact BK113.out⟩, ⟨by repeat (first | (with_reducible first | exact HB.out | apply below_alloc | apply pw_below_drewN | apply below_drew1 | refine below_set ?_ GE113.out) | exact HB.out)⟩⟩
                        · rw [if_neg c22] at H
                          have c22b0 : decide ((wrap64 (a1 * a2)) ≤ ((rd_T35 l0 x35_2).f2)) = false := decide_eq_false c22
                          clear c22
                          (first | rw [c22b0] | (simp only [i64_w, i32_w]; rw [c22b0]) | skip)
                          have H' := Aside0.mk H
                          clear H
                          have hcz24_0 : w20.cell? ⟨gb113, 0, none⟩ = some (.int .i64 0) := (blk_cell BK113.out 0).trans rfl
                          have hcz24_1 : w20.cell? ⟨gb113, 1, none⟩ = some (.int .i64 0) := (blk_cell BK113.out 1).trans rfl
                          have hcz24_2 : w20.cell? ⟨gb113, 2, none⟩ = some (.int .i64 0) := (blk_cell BK113.out 2).trans rfl
                          have hfz24_0 := blk_frozen BK113.out 0
                          have hfz24_1 := blk_frozen BK113.out 1
                          have hfz24_2 := blk_frozen BK113.out 2
                          go_wp2
                          go_meet
                          case rel => exact ⟨_, (decide (((rd_T35 l0 x35_2).f1) > (wrap64 ((wrap64 (a1 * a2)) - ((rd_T35 l0 x35_2).f2))))), (by first | rfl | (simp; done) | (simp [*]; done)), H', ⟨by have := HJ3.out; have := HK2.out; first | omega | exact Nat.le_refl _⟩, ⟨by (with_reducible repeat (first | apply Kd.R_alloc | apply Kd.R_drewN | apply Kd.R_drew)); exact Kd.R_mono (Kd.R_far (p := ⟨gb113, 2, none⟩) (Kd.R_far (p := ⟨gb113, 1, none⟩) (Kd.R_far (p := ⟨gb113, 0, none⟩) (Kd.R_types HO_8.out BK113.out (by decide)) (fun _ hk => hk.2) (.int .i64 ((rd_T35 l0 x35_2).f0))) (fun _ hk => hk.2) (.int .i64 ((rd_T35 l0 x35_2).f1))) (fun _ hk => hk.2) (.int .i64 ((rd_T35 l0 x35_2).f2))) (fun _ hk => trivial)⟩, ⟨by (with_reducible repeat (first | refine blk_drewN ?_ _ | refine blk_drew ?_ | refine blk_alloc ?_ _)); refine blk_put (cs := #[.int .i64 ((rd_T35 l0 x35_2).f0), .int .i64 ((rd_T35 l0 x35_2).f1), .int .i64 0]) ?_ 2 _ rfl; (with_reducible repeat (first | refine blk_drewN ?_ _ | refine blk_drew ?_ | refine blk_alloc ?_ _)); refine blk_put (cs := #[.int .i64 ((rd_T35 l0 x35_2).f0), .int .i64 0, .int .i64 0]) ?_ 1 _ rfl; (with_reducible repeat (first | refine blk_drewN ?_ _ | refine blk_drew ?_ | refine blk_alloc ?_ _)); refine blk_put (cs := #[.int .i64 0, .int .i64 0, .int .i64 0]) ?_ 0 _ rfl; (with_reducible repeat (first | refine blk_drewN ?_ _ | refine blk_drew ?_ | refine blk_alloc ?_ _)); exact BK113.out⟩, ⟨by repeat (first | (with_reducible first | exact HB.out | apply below_alloc | apply pw_below_drewN | apply below_drew1 | refine below_set ?_ GE113.out) | exact HB.out)⟩⟩
                      case rest =>
                        clear HC19
                        try clear c1
                        try clear p1
                        try clear q1
                        try clear hx1
                        try clear c2
                        try clear p2
                        try clear c5
                        try clear c5b0
                        try clear c6
                        try clear c6b0
                        try clear p6
                        try clear c7
                        try clear c7b0
                        try clear c8
                        try clear c8b0
                        try clear c9
                        try clear c11
                        try clear p11
                        try clear q11
                        try clear hx11
                        try clear c12
                        try clear c12b0
                        try clear c12b1
                        try clear c13
                        try clear c13b0
                        try clear c13b1
                        try clear c16
                        try clear c16b0
                        try clear c17
                        try clear c17b0
                        try clear c18
                        try clear c18b0
                        try clear c22
                        try clear c22b0
                        try clear hcz21_0
                        try clear hcz21_1
                        try clear hcz21_2
                        try clear hcz23_0
                        try clear hcz23_1
                        try clear hcz23_2
                        try clear hcz24_0
                        try clear hcz24_1
                        try clear hcz24_2
                        try clear hfz21_0
                        try clear hfz21_1
                        try clear hfz21_2
                        try clear hfz23_0
                        try clear hfz23_1
                        try clear hfz23_2
                        try clear hfz24_0
                        try clear hfz24_1
                        try clear hfz24_2
                        try clear hx112_0
                        try clear hx112_1
                        try clear hx112_2
                        try clear p112
                        try clear p2
                        try clear q112
                        obtain ⟨kq, x55_18, rfl, HA, HJ18, HO_8, BK113, HB⟩ := hcut
                        cases kq with
                        | zero => exact absurd HA.out (by simp [blocks_Valid.j2])
                        | succ kj18 =>
                          have H := HA.out
                          clear HA
                          simp only [blocks_Valid.j2] at H
                          by_cases c25 : x55_18 = true
                          · subst c25
                            have H1 : (some (([] : List Int), 1)) = some (r1, r2) := by rw [if_pos rfl] at H; exact H
                            clear H
                            have H := H1
                            clear H1
                            simp only [Option.some.injEq, Prod.mk.injEq] at H
                            obtain ⟨rfl, rfl⟩ := H
                            go_wp2
                            go_ret2
                            exact ⟨_, by first | rfl | (simp [errW_none, errW_some] <;> rfl) | (simp [*, errW_none, errW_some] <;> rfl), by first | exact Kd.R_nil _ _ _ _ _ | exact Kd.N_nil _ _ _ _ _ | exact Kd.V_nil _ _ _ _ _ | exact Kd.Q_nil _ _ _ _ _ | exact Kd.S_nil _ _ _ _ _, by repeat (first | (with_reducible first | exact HB.out | apply below_alloc | apply pw_below_drewN | apply below_drew1 | refine below_set ?_ GE113.out) | exact HB.out)⟩
                          · replace c25 := Bool.eq_false_iff.mpr c25
                            subst c25
                            have H1 : (blocks_Valid.l1 kj18 a1 a2 x8_2 l0 (l0.length : Int) x35_2 ((rd_T35 l0 x35_2).f1) 0 ((rd_T35 l0 x35_2).f0) ((rd_T35 l0 x35_2).f1) ((rd_T35 l0 x35_2).f2)) = some (r1, r2) := by rw [if_neg (show ¬ (false = true) by decide)] at H; exact H
                            clear H
                            have H := H1
                            clear H1
                            have H' := Aside0.mk H
                            clear H
                            have hcz26_0 : wc.cell? ⟨gb113, 0, none⟩ = some (.int .i64 ((rd_T35 l0 x35_2).f0)) := (blk_cell BK113.out 0).trans rfl
                            have hcz26_1 : wc.cell? ⟨gb113, 1, none⟩ = some (.int .i64 ((rd_T35 l0 x35_2).f1)) := (blk_cell BK113.out 1).trans rfl
                            have hcz26_2 : wc.cell? ⟨gb113, 2, none⟩ = some (.int .i64 ((rd_T35 l0 x35_2).f2)) := (blk_cell BK113.out 2).trans rfl
                            have hfz26_0 := blk_frozen BK113.out 0
                            have hfz26_1 := blk_frozen BK113.out 1
                            have hfz26_2 := blk_frozen BK113.out 2
                            go_wp2
                            go_loopg [58] kj18 (fun kq v58 w' => ∃ (x8_4 : List Int) (x58_4 : Int), v58 = .int .i64 x58_4 ∧ Aside0 (blocks_Valid.l1 kq a1 a2 x8_4 l0 (l0.length : Int) x35_2 ((rd_T35 l0 x35_2).f1) x58_4 ((rd_T35 l0 x35_2).f0) ((rd_T35 l0 x35_2).f1) ((rd_T35 l0 x35_2).f2) = some (r1, r2)) ∧ Aside0 (kq ≤ kj18) ∧ Aside0 (Kd.R (Kd.int .i64) 3 w' w.heap.size (fun _ => True) v110 x8_4) ∧ Aside0 (w'.heap[gb113]? = some (.cells #[.int .i64 ((rd_T35 l0 x35_2).f0), .int .i64 ((rd_T35 l0 x35_2).f1), .int .i64 ((rd_T35 l0 x35_2).f2)] 35 (0, 0))) ∧ Aside0 (Below w.heap.size w w'))
                            case atStart => exact ⟨(x8_2), (0), (by first | rfl | (simp; done) | (simp [*]; done)), H', ⟨Nat.le_refl _⟩, ⟨by (with_reducible repeat (first | apply Kd.R_alloc | apply Kd.R_drewN | apply Kd.R_drew)); exact HO_8.out⟩, ⟨by (with_reducible repeat (first | refine blk_drewN ?_ _ | refine blk_drew ?_ | refine blk_alloc ?_ _)); exact BK113.out⟩, ⟨by repeat (first | (with_reducible first | exact HB.out | apply below_alloc | apply pw_below_drewN | apply below_drew1 | refine below_set ?_ GE113.out) | exact HB.out)⟩⟩
                            case round =>
                              clear H'
                              try clear c1
                              try clear p1
                              try clear q1
                              try clear hx1
                              try clear c2
                              try clear p2
                              try clear c5
                              try clear c5b0
                              try clear c6
                              try clear c6b0
                              try clear p6
                              try clear c7
                              try clear c7b0
                              try clear c8
                              try clear c8b0
                              try clear c9
                              try clear c11
                              try clear p11
                              try clear q11
                              try clear hx11
                              try clear c12
                              try clear c12b0
                              try clear c12b1
                              try clear c13
                              try clear c13b0
                              try clear c13b1
                              try clear c16
                              try clear c16b0
                              try clear c17
                              try clear c17b0
                              try clear c18
                              try clear c18b0
                              try clear c22
                              try clear c22b0
                              try clear c25
                              try clear hcz21_0
                              try clear hcz21_1
                              try clear hcz21_2
                              try clear hcz23_0
                              try clear hcz23_1
                              try clear hcz23_2
                              try clear hcz24_0
                              try clear hcz24_1
                              try clear hcz24_2
                              try clear hcz26_0
                              try clear hcz26_1
                              try clear hcz26_2
                              try clear hfz21_0
                              try clear hfz21_1
                              try clear hfz21_2
                              try clear hfz23_0
                              try clear hfz23_1
                              try clear hfz23_2
                              try clear hfz24_0
                              try clear hfz24_1
                              try clear hfz24_2
                              try clear hfz26_0
                              try clear hfz26_1
                              try clear hfz26_2
                              try clear hx112_0
                              try clear hx112_1
                              try clear hx112_2
                              try clear p1
                              try clear p11
                              try clear p112
                              try clear p2
                              try clear p6
                              try clear q1
                              try clear q11
                              try clear q112
                              obtain ⟨x8_4, x58_4, rfl, HA, HK4, HO_8, BK113, HB⟩ := hrel
                              cases gk with
                              | zero => exact absurd HA.out (by simp [blocks_Valid.l1])
                              | succ k4 =>
                                have H := HA.out
                                clear HA
                                simp only [blocks_Valid.l1] at H
                                by_cases c27 : x58_4 < ((rd_T35 l0 x35_2).f1)
                                · rw [if_pos c27] at H
                                  have c27b0 : decide (x58_4 < ((rd_T35 l0 x35_2).f1)) = true := decide_eq_true c27
                                  clear c27
                                  by_cases c28 : a2 = 0
                                  · rw [if_pos c28] at H
                                    exact absurd H (by simp)
                                  · rw [if_neg c28] at H
                                    have c28b0 : (a2 == 0) = false := beq_eq_false_iff_ne.mpr c28
                                    have c28b1 : (a2 != 0) = true := bne_iff_ne.mpr c28
                                    obtain ⟨ji29, hji29⟩ : ∃ j_ : Int, (wrap64 (Int.tdiv (wrap64 (((rd_T35 l0 x35_2).f2) + x58_4)) a2)) = j_ := ⟨_, rfl⟩
                                    replace H : (if 0 ≤ (ji29) then (if (ji29) < (x8_4.length : Int) then (blocks_Valid.l1 k4 a1 a2 (x8_4.set ((ji29) : Int).toNat (wrap64 ((rd x8_4 (ji29)) + 1))) l0 (l0.length : Int) x35_2 ((rd_T35 l0 x35_2).f1) (wrap64 (x58_4 + 1)) ((rd_T35 l0 x35_2).f0) ((rd_T35 l0 x35_2).f1) ((rd_T35 l0 x35_2).f2)) else (none)) else (none)) = some (r1, r2) := by first | (rw [hji29] at H; exact H) | (simp only [hji29] at H ⊢; exact H)
                                    have hji29w : (IntKind.i64.wrap (Int.tdiv (wrap64 (((rd_T35 l0 x35_2).f2) + x58_4)) a2)) = ji29 := (i64_w _).trans hji29
                                    by_cases c30 : 0 ≤ (ji29)
                                    · rw [if_pos c30] at H
                                      have c30b0 : decide (0 ≤ (ji29)) = true := decide_eq_true c30
                                      clear c30
                                      by_cases c31 : (ji29) < (x8_4.length : Int)
                                      · rw [if_pos c31] at H
                                        have c31b0 : decide ((ji29) < (x8_4.length : Int)) = true := decide_eq_true c31
                                        clear c31
                                        obtain ⟨y115, hy115⟩ : ∃ y_ : List Int, y_ = (x8_4.set ((ji29) : Int).toNat (wrap64 ((rd x8_4 (ji29)) + 1))) := ⟨_, rfl⟩
                                        replace H : (blocks_Valid.l1 k4 a1 a2 y115 l0 (l0.length : Int) x35_2 ((rd_T35 l0 x35_2).f1) (wrap64 (x58_4 + 1)) ((rd_T35 l0 x35_2).f0) ((rd_T35 l0 x35_2).f1) ((rd_T35 l0 x35_2).f2)) = some (r1, r2) := by first | (rw [hy115]; with_reducible exact H) | (have H2_ := (Option.bind_some _ _).symm.trans H; rw [hy115]; with_reducible exact H2_) | (have H2_ := (Option.bind_some _ _).symm.trans H; with_reducible exact H2_) | with_reducible exact H | (rw [hy115]; exact H) | exact H
                                        have Ny115 := Aside0.mk hy115
                                        clear hy115
                                        have H' := Aside0.mk H
                                        clear H
                                        have hcz33_0 : wr.cell? ⟨gb113, 0, none⟩ = some (.int .i64 ((rd_T35 l0 x35_2).f0)) := (blk_cell BK113.out 0).trans rfl
                                        have hcz33_1 : wr.cell? ⟨gb113, 1, none⟩ = some (.int .i64 ((rd_T35 l0 x35_2).f1)) := (blk_cell BK113.out 1).trans rfl
                                        have hcz33_2 : wr.cell? ⟨gb113, 2, none⟩ = some (.int .i64 ((rd_T35 l0 x35_2).f2)) := (blk_cell BK113.out 2).trans rfl
                                        have hfz33_0 := blk_frozen BK113.out 0
                                        have hfz33_1 := blk_frozen BK113.out 1
                                        have hfz33_2 := blk_frozen BK113.out 2
                                        obtain ⟨Ao34, co34, eo34⟩ := Kd.R_slice HO_8.out
                                        subst eo34
                                        have p114 : 0 ≤ ((ji29) : Int) := of_decide_eq_true (by first | (with_reducible assumption) | assumption)
                                        have q114 : (ji29) < (x8_4.length : Int) := of_decide_eq_true (by first | (with_reducible assumption) | assumption)
                                        obtain ⟨ad114, e114, hx114_0⟩ := Kd.at_int (Kd.R_reads' HO_8.out).2.2 (ji29) p114 q114
                                        cases e114
                                        replace p114 := eq_true p114
                                        replace q114 := eq_true q114
                                        have p32 : 0 ≤ ((ji29) : Int) := of_decide_eq_true (by first | (with_reducible assumption) | assumption)
                                        have q32 : ((ji29) : Int) < ((x8_4.length : Int) : Int) := of_decide_eq_true (by first | (with_reducible assumption) | assumption)
                                        obtain ⟨go32, co32, eo32, gb32, gl32, cl32, HG32⟩ := Kd.R_form HO_8.out (by omega)
                                        (first | cases eo32 | (injection eo32 with ea_ en_ ec_; (first | subst ea_ | (injection ea_ with ea_; subst ea_)); subst ec_; clear en_))
                                        have GB32 := Aside0.mk gb32
                                        have GG32 := Aside0.mk HG32
                                        clear gb32 gl32 HG32
                                        (first | simp only [add_plain] at hx114_0 | skip)
                                        obtain ⟨hx32_0, hf32_0⟩ := Kd.R_celln 0 HO_8.out ((ji29) : Int) p32 q32
                                        replace p32 := eq_true p32
                                        replace q32 := eq_true q32
                                        have HP35 := Kd.R_putg HO_8.out ((ji29) : Int) (wrap64 ((rd x8_4 (ji29)) + 1))
                                        go_wp2_with (first | ((with_reducible refine gate_store (t := 3) (p := 71) rfl ?_); refine store_event (t := 3) (p := 71) (v := ?vo_w36) (w1 := (wr.setCell ⟨go32, ((ji29) : Int).toNat, none⟩ (.int .i64 (wrap64 ((rd x8_4 (ji29)) + 1))))) ?hg ?ho ?hn ?hr ?_; (case ho => rfl); (case hg => rfl); (case hn => rfl); (case hr => first | (go_simp; done) | (go_simp; rfl)); intro w36 hw; have hg : wr.grownBy w36 (some go32) := (by rw [hw]; exact HP35.2); have hp_ : Kd.R (Kd.int .i64) 3 w36 w.heap.size (fun _ => True) (.slice (some ⟨go32, 0, none⟩) x8_4.length co34) y115 := (by rw [hw, Ny115.out]; exact HP35.1); clear HP35; have n0_ := Aside0.mk (hp_); have n1_ := Aside0.mk (blk_grown (g := gb113) (o := .cells #[.int .i64 ((rd_T35 l0 x35_2).f0), .int .i64 ((rd_T35 l0 x35_2).f1), .int .i64 ((rd_T35 l0 x35_2).f2)] 35 (0, 0)) (by (with_reducible repeat (first | refine blk_drewN ?_ _ | refine blk_drew ?_ | refine blk_alloc ?_ _)); exact BK113.out) hg (Kd.R_ne HO_8.out BK113.out (by decide))); have n2_ := Aside0.mk ((by rw [hw]; exact below_set (HB.out) GB32.out : Below w.heap.size w w36)); clear HO_8; clear BK113; clear HB; have HO_8 := n0_; have BK113 := n1_; have HB := n2_; clear n0_ n1_ n2_; clear hg hw hp_))
                                        go_roundg k4
                                        case measure => have := HJ3.out; have := HK2.out; have := HJ18.out; have := HK4.out; omega
                                        case rel => exact ⟨(y115), (wrap64 (x58_4 + 1)), (by first | rfl | (simp; done) | (simp [*]; done)), H', ⟨by have := HJ3.out; have := HK2.out; have := HJ18.out; have := HK4.out; omega⟩, ⟨by (with_reducible repeat (first | apply Kd.R_alloc | apply Kd.R_drewN | apply Kd.R_drew)); exact HO_8.out⟩, ⟨by (with_reducible repeat (first | refine blk_drewN ?_ _ | refine blk_drew ?_ | refine blk_alloc ?_ _)); exact BK113.out⟩, ⟨by repeat (first | (with_reducible first | exact HB.out | apply below_alloc | apply pw_below_drewN | apply below_drew1 | refine below_set ?_ GE113.out) | exact HB.out)⟩⟩
                                      · rw [if_neg c31] at H
                                        exact absurd H (by simp)
                                    · rw [if_neg c30] at H
                                      exact absurd H (by simp)
                                · rw [if_neg c27] at H
                                  have c27b0 : decide (x58_4 < ((rd_T35 l0 x35_2).f1)) = false := decide_eq_false c27
                                  clear c27
                                  have H' := Aside0.mk H
                                  clear H
                                  go_wp2
                                  go_roundg k4
                                  case measure => have := HJ3.out; have := HK2.out; have := HJ18.out; have := HK4.out; omega
                                  case rel => exact ⟨(x8_4), (wrap64 (x35_2 + 1)), (by first | rfl | (simp; done) | (simp [*]; done)), H', ⟨by have := HJ3.out; have := HK2.out; have := HJ18.out; have := HK4.out; omega⟩, ⟨by (with_reducible repeat (first | apply Kd.R_alloc | apply Kd.R_drewN | apply Kd.R_drew)); exact HO_8.out⟩, ⟨by repeat (first | (with_reducible first | exact HB.out | apply below_alloc | apply pw_below_drewN | apply below_drew1 | refine below_set ?_ GE113.out) | exact HB.out)⟩⟩
                    · rw [if_neg c18] at H
                      exact absurd H (by simp)
                  · rw [if_neg c17] at H
                    exact absurd H (by simp)
                · rw [if_neg c16] at H
                  have c16b0 : decide (x35_2 < (l0.length : Int)) = false := decide_eq_false c16
                  clear c16
                  simp only [Option.some.injEq, Prod.mk.injEq] at H
                  obtain ⟨rfl, rfl⟩ := H
                  go_wp2
                  go_ret2
                  exact ⟨_, by first | rfl | (simp [errW_none, errW_some] <;> rfl) | (simp [*, errW_none, errW_some] <;> rfl), by (with_reducible repeat (first | apply Kd.R_alloc | apply Kd.R_drewN | apply Kd.R_drew)); exact HO_8.out, by repeat (first | (with_reducible first | exact HB.out | apply below_alloc | apply pw_below_drewN | apply below_drew1) | exact HB.out)⟩
          · rw [if_neg c13] at H
            exact absurd H (by simp)
        · rw [if_neg c12] at H
          exact absurd H (by simp)

/-! ### ferrulelaw13_sample: function 10 -/
def ferrulelaw13_sample.f  : Option ((List (S35))) := some (([(⟨0, 3, 6⟩ : S35), (⟨5, 2, 2⟩ : S35)] : List (S35)))
set_option maxHeartbeats 8000000 in
set_option maxRecDepth 100000 in
theorem ferrulelaw13_sample.calls  (r : List (S35)) (w : World) (h : ferrulelaw13_sample.f  = some r) :
    Calls Try.prog 10 #[] w fun e w' => ∃ v0_ : Value, e = .returned (v0_) ∧ Kd.R k35 35 w' w.heap.size (fun _ => True) v0_ r ∧ Below w.heap.size w w' := by
  have hu35 := Try.underlying35
  have HB := Aside0.mk (Below.refl w.heap.size w)
  have H : (some (([(⟨0, 3, 6⟩ : S35), (⟨5, 2, 2⟩ : S35)] : List (S35)))) = some r := h
  clear h
  obtain ⟨y116, hy116⟩ : ∃ y_ : List (S35), y_ = (([(⟨0, 3, 6⟩ : S35), (⟨5, 2, 2⟩ : S35)] : List (S35))) := ⟨_, rfl⟩
  replace H : (some y116) = some r := by first | (rw [hy116]; with_reducible exact H) | (have H2_ := (Option.bind_some _ _).symm.trans H; rw [hy116]; with_reducible exact H2_) | (have H2_ := (Option.bind_some _ _).symm.trans H; with_reducible exact H2_) | with_reducible exact H | (rw [hy116]; exact H) | exact H
  have Ny116 := Aside0.mk hy116
  clear hy116
  obtain rfl := Option.some.inj H
  go_enter Try.func10, Try.ntmps10
  go_wp2_with (first | ((with_reducible refine gate_dst (N := 3) rfl ?_); refine Kd.R_lit k35 _ 35 ?hg (N := 3) ?hd (xs := ([(⟨0, 3, 6⟩ : S35), (⟨5, 2, 2⟩ : S35)] : List (S35))) (inner := [.int .i64 0, .int .i64 3, .int .i64 6, .int .i64 5, .int .i64 2, .int .i64 2]) (ok := fun _ => True) (okp := fun _ => True) ?hr ?hp (fun _ hk => hk) trivial (Below.refl _ _) (Nat.le_refl _) (by simp) ?_; (case hd => rfl); (case hg => rfl); (case hr => first | (go_simp; done) | (go_simp; rfl)); (case hp => exact (Reps.c3 (show Kd.M k35 _ _ _ (⟨0, 3, 6⟩ : S35) [.int .i64 0, .int .i64 3, .int .i64 6] from (k35_mkM _ _ _ (⟨0, 3, 6⟩ : S35) )) (Reps.c3 (show Kd.M k35 _ _ _ (⟨5, 2, 2⟩ : S35) [.int .i64 5, .int .i64 2, .int .i64 2] from (k35_mkM _ _ _ (⟨5, 2, 2⟩ : S35) )) (Reps.none _ _)))); intro v117 w1 ho2 hb hg_ hnew_; clear hg_ hnew_; (first | rw [← Ny116.out] at ho2 | (simp only [Int.reduceToNat] at ho2; rw [← Ny116.out] at ho2)); have n0_ := Aside0.mk (Kd.R_lower ho2 (below_size (by repeat (first | (with_reducible first | exact HB.out | apply below_alloc | apply pw_below_drewN | apply below_drew1) | exact HB.out)))); have n1_ := Aside0.mk (below_step (by repeat (first | (with_reducible first | exact HB.out | apply below_alloc | apply pw_below_drewN | apply below_drew1) | exact HB.out)) hb); clear HB; have HO118 := n0_; have HB := n1_; clear n0_ n1_; clear hb ho2))
  go_ret
  exact ⟨_, by first | rfl | (simp [errW_none, errW_some] <;> rfl) | (simp [*, errW_none, errW_some] <;> rfl), by (with_reducible repeat (first | apply Kd.R_alloc | apply Kd.R_drewN | apply Kd.R_drew)); exact HO118.out, by repeat (first | (with_reducible first | exact HB.out | apply below_alloc | apply pw_below_drewN | apply below_drew1) | exact HB.out)⟩

end Go.Proofs.Ytnogokemjcfaoaa.PBlocksParts
