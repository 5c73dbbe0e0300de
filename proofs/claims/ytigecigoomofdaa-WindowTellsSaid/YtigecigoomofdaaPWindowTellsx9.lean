-- By a program of this session (NOTES.md). Lean checks it.
import Derived.Test.YtigecigoomofdaaPWindowTellsx0
namespace Go.Proofs.Ytigecigoomofdaa.PWindowTells
open Go.RowKit Go.Proofs.YtigecigoomofdaaW.PrintWords Go.Proofs.YtigecigoomofdaaW.PrintLast Go.Proofs.YtigecigoomofdaaW.PrintMore
attribute [local go_sem] max2_int min2_int max_two min_two max_three min_three max_four min_four   -- for this text's walks alone
set_option linter.unusedVariables false
set_option linter.unusedSimpArgs false

/-! ### ferruleref13_Many: function 25 -/
mutual
def ferruleref13_Many.l0 : Nat → List (S39) → Int → List Int → Int → Option (List Int)
  | 0, _, _, _, _ => none
  | k + 1, x0, x2, x7, x8 => if x8 < (x7.length : Int) then (ferruleref13_Many.l1 k x0 x2 x7 x8 0) else (some x7)
def ferruleref13_Many.l1 : Nat → List (S39) → Int → List Int → Int → Int → Option (List Int)
  | 0, _, _, _, _, _ => none
  | k + 1, x0, x2, x7, x8, x9 => if x9 < (x0.length : Int) then (if 0 ≤ x9 then (if ((rd_T39 x0 x9).f0) < (wrap64 ((wrap64 (x8 + 1)) * x2)) then (if (wrap64 (((rd_T39 x0 x9).f0) + ((rd_T39 x0 x9).f1))) > (wrap64 (x8 * x2)) then (if 0 ≤ x8 then (if x8 < (x7.length : Int) then (ferruleref13_Many.l1 k x0 x2 (x7.set (x8 : Int).toNat (wrap64 ((rd x7 x8) + 1))) x8 (wrap64 (x9 + 1))) else (none)) else (none)) else (ferruleref13_Many.l1 k x0 x2 x7 x8 (wrap64 (x9 + 1)))) else (ferruleref13_Many.l1 k x0 x2 x7 x8 (wrap64 (x9 + 1)))) else (none)) else (ferruleref13_Many.l0 k x0 x2 x7 (wrap64 (x8 + 1)))
end
def ferruleref13_Many.f (k : Nat) (l0 : List (S39)) (a1 : Int) (a2 : Int) : Option (List Int) := if a2 = 0 then (none) else (if 0 ≤ (wrap64 (Int.tdiv (wrap64 ((wrap64 (a1 + a2)) - 1)) a2)) then (if (wrap64 (Int.tdiv (wrap64 ((wrap64 (a1 + a2)) - 1)) a2) : Int).toNat ≤ 35184372088832 then (ferruleref13_Many.l0 k l0 a2 (List.replicate (wrap64 (Int.tdiv (wrap64 ((wrap64 (a1 + a2)) - 1)) a2) : Int).toNat 0) 0) else (none)) else (none))
theorem ferruleref13_Many.mono_l : ∀ k, (∀ y0 y1 y2 y3, LeO (ferruleref13_Many.l0 k y0 y1 y2 y3) (ferruleref13_Many.l0 (k + 1) y0 y1 y2 y3)) ∧ (∀ y0 y1 y2 y3 y4, LeO (ferruleref13_Many.l1 k y0 y1 y2 y3 y4) (ferruleref13_Many.l1 (k + 1) y0 y1 y2 y3 y4))
  | 0 => ⟨fun _ _ _ _ r h => by simp [ferruleref13_Many.l0] at h, fun _ _ _ _ _ r h => by simp [ferruleref13_Many.l1] at h⟩
  | k + 1 => by
    obtain ⟨ih0, ih1⟩ := ferruleref13_Many.mono_l k
    refine ⟨?_, ?_⟩
    · intro y0 y1 y2 y3
      unfold ferruleref13_Many.l0
      repeat' first
      | (with_reducible exact ih0 _ _ _ _)
      | (with_reducible exact ih1 _ _ _ _ _)
      | (with_reducible exact LeO.refl _)
      | (with_reducible exact LeO.none _)
      | (with_reducible refine LeO.ite ?_ ?_)
      | (with_reducible refine LeO.bind ?_ (fun _ => ?_))
      | exact ih0 _ _ _ _
      | exact ih1 _ _ _ _ _
      | exact LeO.none _
      | refine LeO.ite ?_ ?_
      | refine LeO.bind ?_ (fun _ => ?_)
    · intro y0 y1 y2 y3 y4
      unfold ferruleref13_Many.l1
      repeat' first
      | (with_reducible exact ih0 _ _ _ _)
      | (with_reducible exact ih1 _ _ _ _ _)
      | (with_reducible exact LeO.refl _)
      | (with_reducible exact LeO.none _)
      | (with_reducible refine LeO.ite ?_ ?_)
      | (with_reducible refine LeO.bind ?_ (fun _ => ?_))
      | exact ih0 _ _ _ _
      | exact ih1 _ _ _ _ _
      | exact LeO.none _
      | refine LeO.ite ?_ ?_
      | refine LeO.bind ?_ (fun _ => ?_)
theorem ferruleref13_Many.mono : ∀ a0 a1 a2 k, LeO (ferruleref13_Many.f k a0 a1 a2) (ferruleref13_Many.f (k + 1) a0 a1 a2) := by
  intro a0 a1 a2 k
  obtain ⟨ih0, ih1⟩ := ferruleref13_Many.mono_l k
  unfold ferruleref13_Many.f
  repeat' first
      | (with_reducible exact ih0 _ _ _ _)
      | (with_reducible exact ih1 _ _ _ _ _)
      | (with_reducible exact LeO.refl _)
      | (with_reducible exact LeO.none _)
      | (with_reducible refine LeO.ite ?_ ?_)
      | (with_reducible refine LeO.bind ?_ (fun _ => ?_))
      | exact ih0 _ _ _ _
      | exact ih1 _ _ _ _ _
      | exact LeO.none _
      | refine LeO.ite ?_ ?_
      | refine LeO.bind ?_ (fun _ => ?_)
set_option maxHeartbeats 8000000 in
set_option maxRecDepth 100000 in
theorem ferruleref13_Many.calls (k : Nat) (A0 : Option Addr) (c0 : Nat) (l0 : List (S39)) (a1 : Int) (a2 : Int) (r : List Int) (w : World) (hr0 : Kd.C k39 w A0 l0.length l0) (hc0 : l0.length ≤ c0) (h : ferruleref13_Many.f k l0 a1 a2 = some r) :
    Calls Try.prog 25 #[.slice A0 l0.length c0, .int .i64 a1, .int .i64 a2] w fun e w' => ∃ v0_ : Value, e = .returned (v0_) ∧ Kd.R (Kd.int .i64) 3 w' w.heap.size (fun _ => True) v0_ r ∧ Below w.heap.size w w' := by
  have HR0 := Aside0.mk hr0
  have HC0 := Aside0.mk hc0
  clear hr0 hc0
  have HB := Aside0.mk (Below.refl w.heap.size w)
  have H : (if a2 = 0 then (none) else (if 0 ≤ (wrap64 (Int.tdiv (wrap64 ((wrap64 (a1 + a2)) - 1)) a2)) then (if (wrap64 (Int.tdiv (wrap64 ((wrap64 (a1 + a2)) - 1)) a2) : Int).toNat ≤ 35184372088832 then (ferruleref13_Many.l0 k l0 a2 (List.replicate (wrap64 (Int.tdiv (wrap64 ((wrap64 (a1 + a2)) - 1)) a2) : Int).toNat 0) 0) else (none)) else (none))) = some r := h
  clear h
  by_cases c4 : a2 = 0
  · rw [if_pos c4] at H
    exact absurd H (by simp)
  · rw [if_neg c4] at H
    have c4b0 : (a2 == 0) = false := beq_eq_false_iff_ne.mpr c4
    have c4b1 : (a2 != 0) = true := bne_iff_ne.mpr c4
    obtain ⟨ji5, hji5⟩ : ∃ j_ : Int, (wrap64 (Int.tdiv (wrap64 ((wrap64 (a1 + a2)) - 1)) a2)) = j_ := ⟨_, rfl⟩
    replace H : (if 0 ≤ (ji5) then (if (ji5 : Int).toNat ≤ 35184372088832 then (ferruleref13_Many.l0 k l0 a2 (List.replicate (ji5 : Int).toNat 0) 0) else (none)) else (none)) = some r := by first | (rw [hji5] at H; exact H) | (simp only [hji5] at H ⊢; exact H)
    have hji5w : (IntKind.i64.wrap (Int.tdiv (wrap64 ((wrap64 (a1 + a2)) - 1)) a2)) = ji5 := (i64_w _).trans hji5
    by_cases c6 : 0 ≤ (ji5)
    · rw [if_pos c6] at H
      have c6b0 := eq_true c6
      have c6b1 : decide (0 ≤ (ji5)) = true := decide_eq_true c6
      clear c6
      by_cases c7 : (ji5 : Int).toNat ≤ 35184372088832
      · rw [if_pos c7] at H
        have c7b0 := eq_true c7
        have c7b1 : decide ((ji5 : Int).toNat ≤ 35184372088832) = true := decide_eq_true c7
        clear c7
        obtain ⟨y240, hy240⟩ : ∃ y_ : List Int, y_ = (List.replicate (ji5 : Int).toNat 0) := ⟨_, rfl⟩
        replace H : (ferruleref13_Many.l0 k l0 a2 y240 0) = some r := by first | (rw [hy240]; with_reducible exact H) | (have H2_ := (Option.bind_some _ _).symm.trans H; rw [hy240]; with_reducible exact H2_) | (have H2_ := (Option.bind_some _ _).symm.trans H; with_reducible exact H2_) | with_reducible exact H | (rw [hy240]; exact H) | exact H
        have Ny240 := Aside0.mk hy240
        clear hy240
        have H' := Aside0.mk H
        clear H
        go_enter Try.func25, Try.ntmps25
        go_wp2_with (first | ((with_reducible refine gate_dst (N := 16) rfl ?_); refine Kd.R_make (Kd.int .i64) _ 3 rfl (N := 16) rfl 29 _ _ rfl ji5 rfl rfl Try.underlying29 (.int .i64 0) 8 info3 rfl (by decide) (by omega) 0 (ok := fun _ => True) (okp := fun _ => True) rfl (fun _ hk => hk) trivial (of_decide_eq_true (by with_reducible assumption)) (Nat.le_trans (Nat.mul_le_mul_right _ (of_decide_eq_true (by with_reducible assumption) : ji5.toNat ≤ 35184372088832)) (by omega)) (Below.refl _ _) (Nat.le_refl _) ?_; intro v241 w8 ho9 hb hg_ hnew_; clear hg_ hnew_; (first | rw [← Ny240.out] at ho9 | (simp only [Int.reduceToNat] at ho9; rw [← Ny240.out] at ho9)); have n0_ := Aside0.mk (Kd.R_lower ho9 (below_size (by repeat with_reducible first | exact HB.out | apply below_alloc | apply pw_below_drewN | apply below_drew1))); have n1_ := Aside0.mk (below_step (by repeat with_reducible first | exact HB.out | apply below_alloc | apply pw_below_drewN | apply below_drew1) hb); clear HB; have HO242 := n0_; have HB := n1_; clear n0_ n1_; clear hb ho9))
        repeat (go_quiet (first | ((with_reducible refine gate_dst (N := 16) rfl ?_); refine Kd.R_make (Kd.int .i64) _ 3 rfl (N := 16) rfl 29 _ _ rfl ji5 rfl rfl Try.underlying29 (.int .i64 0) 8 info3 rfl (by decide) (by omega) 0 (ok := fun _ => True) (okp := fun _ => True) rfl (fun _ hk => hk) trivial (of_decide_eq_true (by with_reducible assumption)) (Nat.le_trans (Nat.mul_le_mul_right _ (of_decide_eq_true (by with_reducible assumption) : ji5.toNat ≤ 35184372088832)) (by omega)) (Below.refl _ _) (Nat.le_refl _) ?_; intro v241 w8 ho9 hb hg_ hnew_; clear hg_ hnew_; (first | rw [← Ny240.out] at ho9 | (simp only [Int.reduceToNat] at ho9; rw [← Ny240.out] at ho9)); have n0_ := Aside0.mk (Kd.R_lower ho9 (below_size (by repeat with_reducible first | exact HB.out | apply below_alloc | apply pw_below_drewN | apply below_drew1))); have n1_ := Aside0.mk (below_step (by repeat with_reducible first | exact HB.out | apply below_alloc | apply pw_below_drewN | apply below_drew1) hb); clear HB; have HO242 := n0_; have HB := n1_; clear n0_ n1_; clear hb ho9)); try go_wp2_with (first | ((with_reducible refine gate_dst (N := 16) rfl ?_); refine Kd.R_make (Kd.int .i64) _ 3 rfl (N := 16) rfl 29 _ _ rfl ji5 rfl rfl Try.underlying29 (.int .i64 0) 8 info3 rfl (by decide) (by omega) 0 (ok := fun _ => True) (okp := fun _ => True) rfl (fun _ hk => hk) trivial (of_decide_eq_true (by with_reducible assumption)) (Nat.le_trans (Nat.mul_le_mul_right _ (of_decide_eq_true (by with_reducible assumption) : ji5.toNat ≤ 35184372088832)) (by omega)) (Below.refl _ _) (Nat.le_refl _) ?_; intro v241 w8 ho9 hb hg_ hnew_; clear hg_ hnew_; (first | rw [← Ny240.out] at ho9 | (simp only [Int.reduceToNat] at ho9; rw [← Ny240.out] at ho9)); have n0_ := Aside0.mk (Kd.R_lower ho9 (below_size (by repeat with_reducible first | exact HB.out | apply below_alloc | apply pw_below_drewN | apply below_drew1))); have n1_ := Aside0.mk (below_step (by repeat with_reducible first | exact HB.out | apply below_alloc | apply pw_below_drewN | apply below_drew1) hb); clear HB; have HO242 := n0_; have HB := n1_; clear n0_ n1_; clear hb ho9)))
        go_loopg [8] k (fun kq v8 w' => ∃ (x7_1 : List Int) (x8_1 : Int), v8 = .int .i64 x8_1 ∧ Aside0 (ferruleref13_Many.l0 kq l0 a2 x7_1 x8_1 = some r) ∧ Aside0 (kq ≤ k) ∧ Aside0 (Kd.R (Kd.int .i64) 3 w' w.heap.size (fun _ => True) v241 x7_1) ∧ Aside0 (Below w.heap.size w w'))
        case atStart => exact ⟨(y240), (0), (by first | rfl | (simp; done) | (simp [*]; done)), H', ⟨Nat.le_refl _⟩, ⟨by (with_reducible repeat (first | apply Kd.R_alloc | apply Kd.R_drewN | apply Kd.R_drew)); exact HO242.out⟩, ⟨by repeat with_reducible first | exact HB.out | apply below_alloc | apply pw_below_drewN | apply below_drew1⟩⟩
        case round =>
          clear H'
          try clear c2
          try clear p2
          try clear c4
          try clear c4b0
          try clear c4b1
          try clear c6
          try clear c6b0
          try clear c6b1
          try clear p6
          try clear c7
          try clear c7b0
          try clear c7b1
          obtain ⟨x7_1, x8_1, rfl, HA, HK1, HO_7, HB⟩ := hrel
          cases gk with
          | zero => exact absurd HA.out (by simp [ferruleref13_Many.l0])
          | succ k1 =>
            have H := HA.out
            clear HA
            simp only [ferruleref13_Many.l0] at H
            by_cases c10 : x8_1 < (x7_1.length : Int)
            · rw [if_pos c10] at H
              have c10b0 : decide (x8_1 < (x7_1.length : Int)) = true := decide_eq_true c10
              clear c10
              have H' := Aside0.mk H
              clear H
              obtain ⟨Ao11, co11, eo11⟩ := Kd.R_slice HO_7.out
              subst eo11
              go_wp2
              repeat (go_quiet (fail); try go_wp2)
              go_loopg [9] k1 (fun kq v9 w' => ∃ (x7_2 : List Int) (x9_2 : Int), v9 = .int .i64 x9_2 ∧ Aside0 (ferruleref13_Many.l1 kq l0 a2 x7_2 x8_1 x9_2 = some r) ∧ Aside0 (kq ≤ k1) ∧ Aside0 (Kd.R (Kd.int .i64) 3 w' w.heap.size (fun _ => True) (.slice Ao11 x7_1.length co11) x7_2) ∧ Aside0 (Below w.heap.size w w'))
              case atStart => exact ⟨(x7_1), (0), (by first | rfl | (simp; done) | (simp [*]; done)), H', ⟨Nat.le_refl _⟩, ⟨by (with_reducible repeat (first | apply Kd.R_alloc | apply Kd.R_drewN | apply Kd.R_drew)); exact HO_7.out⟩, ⟨by repeat with_reducible first | exact HB.out | apply below_alloc | apply pw_below_drewN | apply below_drew1⟩⟩
              case round =>
                clear H'
                try clear c1
                try clear c2
                try clear p2
                try clear c4
                try clear c4b0
                try clear c4b1
                try clear c6
                try clear c6b0
                try clear c6b1
                try clear p6
                try clear c7
                try clear c7b0
                try clear c7b1
                try clear c10
                try clear c10b0
                try clear p2
                try clear p6
                obtain ⟨x7_2, x9_2, rfl, HA, HK2, HO_7, HB⟩ := hrel
                have hl7_2 := (Kd.R_reads' HO_7.out).1
                rw [hl7_2] at HO_7
                (try simp only [hl7_2])
                cases gk with
                | zero => exact absurd HA.out (by simp [ferruleref13_Many.l1])
                | succ k2 =>
                  have H := HA.out
                  clear HA
                  simp only [ferruleref13_Many.l1] at H
                  by_cases c12 : x9_2 < (l0.length : Int)
                  · rw [if_pos c12] at H
                    have c12b0 : decide (x9_2 < (l0.length : Int)) = true := decide_eq_true c12
                    clear c12
                    by_cases c13 : 0 ≤ x9_2
                    · rw [if_pos c13] at H
                      have c13b0 : decide (0 ≤ x9_2) = true := decide_eq_true c13
                      clear c13
                      by_cases c14 : ((rd_T39 l0 x9_2).f0) < (wrap64 ((wrap64 (x8_1 + 1)) * a2))
                      · rw [if_pos c14] at H
                        have c14b0 : decide (((rd_T39 l0 x9_2).f0) < (wrap64 ((wrap64 (x8_1 + 1)) * a2))) = true := decide_eq_true c14
                        clear c14
                        by_cases c15 : (wrap64 (((rd_T39 l0 x9_2).f0) + ((rd_T39 l0 x9_2).f1))) > (wrap64 (x8_1 * a2))
                        · rw [if_pos c15] at H
                          have c15b0 : decide ((wrap64 (x8_1 * a2)) < (wrap64 (((rd_T39 l0 x9_2).f0) + ((rd_T39 l0 x9_2).f1)))) = true := decide_eq_true c15
                          clear c15
                          by_cases c16 : 0 ≤ x8_1
                          · rw [if_pos c16] at H
                            have c16b0 : decide (0 ≤ x8_1) = true := decide_eq_true c16
                            clear c16
                            by_cases c17 : x8_1 < (x7_2.length : Int)
                            · rw [if_pos c17] at H
                              have c17b0 : decide (x8_1 < (x7_2.length : Int)) = true := decide_eq_true c17
                              clear c17
                              obtain ⟨y247, hy247⟩ : ∃ y_ : List Int, y_ = (x7_2.set (x8_1 : Int).toNat (wrap64 ((rd x7_2 x8_1) + 1))) := ⟨_, rfl⟩
                              replace H : (ferruleref13_Many.l1 k2 l0 a2 y247 x8_1 (wrap64 (x9_2 + 1))) = some r := by first | (rw [hy247]; with_reducible exact H) | (have H2_ := (Option.bind_some _ _).symm.trans H; rw [hy247]; with_reducible exact H2_) | (have H2_ := (Option.bind_some _ _).symm.trans H; with_reducible exact H2_) | with_reducible exact H | (rw [hy247]; exact H) | exact H
                              have Ny247 := Aside0.mk hy247
                              clear hy247
                              have H' := Aside0.mk H
                              clear H
                              have p243 : 0 ≤ (x9_2 : Int) := of_decide_eq_true (by with_reducible assumption)
                              have q243 : x9_2 < (l0.length : Int) := of_decide_eq_true (by with_reducible assumption)
                              obtain ⟨ad243, e243, hx243_0, hx243_1, hx243_2⟩ := at_T39 HR0.out x9_2 p243 q243
                              cases e243
                              replace hx243_0 := (HB.out.cell (World.block_lt_of_cell? w _ hx243_0)).trans hx243_0
                              replace hx243_1 := (HB.out.cell (World.block_lt_of_cell? w _ hx243_1)).trans hx243_1
                              replace hx243_2 := (HB.out.cell (World.block_lt_of_cell? w _ hx243_2)).trans hx243_2
                              replace p243 := eq_true p243
                              replace q243 := eq_true q243
                              have p244 : 0 ≤ (x9_2 : Int) := of_decide_eq_true (by with_reducible assumption)
                              have q244 : x9_2 < (l0.length : Int) := of_decide_eq_true (by with_reducible assumption)
                              obtain ⟨ad244, e244, hx244_0, hx244_1, hx244_2⟩ := at_T39 HR0.out x9_2 p244 q244
                              obtain rfl : ad243 = ad244 := (by injection e244)
                              replace hx244_0 := (HB.out.cell (World.block_lt_of_cell? w _ hx244_0)).trans hx244_0
                              replace hx244_1 := (HB.out.cell (World.block_lt_of_cell? w _ hx244_1)).trans hx244_1
                              replace hx244_2 := (HB.out.cell (World.block_lt_of_cell? w _ hx244_2)).trans hx244_2
                              replace p244 := eq_true p244
                              replace q244 := eq_true q244
                              have p245 : 0 ≤ (x9_2 : Int) := of_decide_eq_true (by with_reducible assumption)
                              have q245 : x9_2 < (l0.length : Int) := of_decide_eq_true (by with_reducible assumption)
                              obtain ⟨ad245, e245, hx245_0, hx245_1, hx245_2⟩ := at_T39 HR0.out x9_2 p245 q245
                              obtain rfl : ad243 = ad245 := (by injection e245)
                              replace hx245_0 := (HB.out.cell (World.block_lt_of_cell? w _ hx245_0)).trans hx245_0
                              replace hx245_1 := (HB.out.cell (World.block_lt_of_cell? w _ hx245_1)).trans hx245_1
                              replace hx245_2 := (HB.out.cell (World.block_lt_of_cell? w _ hx245_2)).trans hx245_2
                              replace p245 := eq_true p245
                              replace q245 := eq_true q245
                              have p246 : 0 ≤ (x8_1 : Int) := of_decide_eq_true (by with_reducible assumption)
                              have q246 : x8_1 < (x7_2.length : Int) := of_decide_eq_true (by with_reducible assumption)
                              obtain ⟨ad246, e246, hx246_0⟩ := Kd.at_int (Kd.R_reads' HO_7.out).2.2 x8_1 p246 q246
                              cases e246
                              replace p246 := eq_true p246
                              replace q246 := eq_true q246
                              have p18 : 0 ≤ (x8_1 : Int) := of_decide_eq_true (by with_reducible assumption)
                              have q18 : (x8_1 : Int) < ((x7_2.length : Int) : Int) := of_decide_eq_true (by with_reducible assumption)
                              obtain ⟨go18, co18, eo18, gb18, gl18, cl18, HG18⟩ := Kd.R_form HO_7.out (by omega)
                              (first | cases eo18 | (injection eo18 with ea_ en_ ec_; (first | subst ea_ | (injection ea_ with ea_; subst ea_)); subst ec_; clear en_))
                              have GB18 := Aside0.mk gb18
                              have GG18 := Aside0.mk HG18
                              clear gb18 gl18 HG18
                              (first | simp only [add_plain] at hx246_0 | skip)
                              obtain ⟨hx18_0, hf18_0⟩ := Kd.R_celln 0 HO_7.out (x8_1 : Int) p18 q18
                              replace p18 := eq_true p18
                              replace q18 := eq_true q18
                              have HP19 := Kd.R_putg HO_7.out (x8_1 : Int) (wrap64 ((rd x7_2 x8_1) + 1))
                              go_wp2_with (first | ((with_reducible refine gate_store (t := 3) (p := 61) rfl ?_); (try (rw [drewN_self wr]; generalize hq_ : World.drewN wr _ = wr; have n0_ := Aside0.mk (Kd.R_at hq_ HO_7.out); have n1_ := Aside0.mk (below_at hq_ HB.out); clear hq_ HO_7 HB; have HO_7 := n0_; have HB := n1_; clear n0_ n1_; (try (have HP19 := Kd.R_putg HO_7.out (x8_1 : Int) (wrap64 ((rd x7_2 x8_1) + 1)))))); refine store_event (t := 3) (p := 61) (v := ?vo_w20) (w1 := (wr.setCell ⟨go18, (x8_1 : Int).toNat, none⟩ (.int .i64 (wrap64 ((rd x7_2 x8_1) + 1))))) ?hg ?ho ?hn ?hr ?_; (case ho => rfl); (case hg => rfl); (case hn => rfl); (case hr => first | (go_simp; done) | (go_simp; rfl)); intro w20 hw; have hg : wr.grownBy w20 (some go18) := (by rw [hw]; exact HP19.2); have hp_ : Kd.R (Kd.int .i64) 3 w20 w.heap.size (fun _ => True) (.slice (some ⟨go18, 0, none⟩) x7_2.length co11) y247 := (by rw [hw, Ny247.out]; exact HP19.1); clear HP19; have n0_ := Aside0.mk (hp_); have n1_ := Aside0.mk ((by rw [hw]; exact below_set (HB.out) GB18.out : Below w.heap.size w w20)); clear HO_7; clear HB; have HO_7 := n0_; have HB := n1_; clear n0_ n1_; clear hg hw hp_))
                              repeat (go_quiet (first | ((with_reducible refine gate_store (t := 3) (p := 61) rfl ?_); (try (rw [drewN_self wr]; generalize hq_ : World.drewN wr _ = wr; have n0_ := Aside0.mk (Kd.R_at hq_ HO_7.out); have n1_ := Aside0.mk (below_at hq_ HB.out); clear hq_ HO_7 HB; have HO_7 := n0_; have HB := n1_; clear n0_ n1_; (try (have HP19 := Kd.R_putg HO_7.out (x8_1 : Int) (wrap64 ((rd x7_2 x8_1) + 1)))))); refine store_event (t := 3) (p := 61) (v := ?vo_w20) (w1 := (wr.setCell ⟨go18, (x8_1 : Int).toNat, none⟩ (.int .i64 (wrap64 ((rd x7_2 x8_1) + 1))))) ?hg ?ho ?hn ?hr ?_; (case ho => rfl); (case hg => rfl); (case hn => rfl); (case hr => first | (go_simp; done) | (go_simp; rfl)); intro w20 hw; have hg : wr.grownBy w20 (some go18) := (by rw [hw]; exact HP19.2); have hp_ : Kd.R (Kd.int .i64) 3 w20 w.heap.size (fun _ => True) (.slice (some ⟨go18, 0, none⟩) x7_2.length co11) y247 := (by rw [hw, Ny247.out]; exact HP19.1); clear HP19; have n0_ := Aside0.mk (hp_); have n1_ := Aside0.mk ((by rw [hw]; exact below_set (HB.out) GB18.out : Below w.heap.size w w20)); clear HO_7; clear HB; have HO_7 := n0_; have HB := n1_; clear n0_ n1_; clear hg hw hp_)); try go_wp2_with (first | ((with_reducible refine gate_store (t := 3) (p := 61) rfl ?_); (try (rw [drewN_self wr]; generalize hq_ : World.drewN wr _ = wr; have n0_ := Aside0.mk (Kd.R_at hq_ HO_7.out); have n1_ := Aside0.mk (below_at hq_ HB.out); clear hq_ HO_7 HB; have HO_7 := n0_; have HB := n1_; clear n0_ n1_; (try (have HP19 := Kd.R_putg HO_7.out (x8_1 : Int) (wrap64 ((rd x7_2 x8_1) + 1)))))); refine store_event (t := 3) (p := 61) (v := ?vo_w20) (w1 := (wr.setCell ⟨go18, (x8_1 : Int).toNat, none⟩ (.int .i64 (wrap64 ((rd x7_2 x8_1) + 1))))) ?hg ?ho ?hn ?hr ?_; (case ho => rfl); (case hg => rfl); (case hn => rfl); (case hr => first | (go_simp; done) | (go_simp; rfl)); intro w20 hw; have hg : wr.grownBy w20 (some go18) := (by rw [hw]; exact HP19.2); have hp_ : Kd.R (Kd.int .i64) 3 w20 w.heap.size (fun _ => True) (.slice (some ⟨go18, 0, none⟩) x7_2.length co11) y247 := (by rw [hw, Ny247.out]; exact HP19.1); clear HP19; have n0_ := Aside0.mk (hp_); have n1_ := Aside0.mk ((by rw [hw]; exact below_set (HB.out) GB18.out : Below w.heap.size w w20)); clear HO_7; clear HB; have HO_7 := n0_; have HB := n1_; clear n0_ n1_; clear hg hw hp_)))
                              (try simp only [← hl7_2])
                              go_roundg k2
                              case measure => have := HK1.out; have := HK2.out; omega
                              case rel => exact ⟨(y247), (wrap64 (x9_2 + 1)), (by first | rfl | (simp; done) | (simp [*]; done)), H', ⟨by have := HK1.out; have := HK2.out; omega⟩, ⟨by first | (exact (by rw [Ny247.out]; first | exact Kd.R_drewN HP19.1 nq | (simp only [hl7_2]; exact Kd.R_drewN HP19.1 nq))) | ((try simp only [hl7_2]); (with_reducible repeat (first | apply Kd.R_alloc | apply Kd.R_drewN | apply Kd.R_drew)); exact HO_7.out)⟩, ⟨by first | exact below_set (pw_below_drewN HB.out nq) GB18.out | repeat with_reducible first | exact HB.out | apply below_alloc | apply pw_below_drewN | apply below_drew1⟩⟩
                            · rw [if_neg c17] at H
                              exact absurd H (by simp)
                          · rw [if_neg c16] at H
                            exact absurd H (by simp)
                        · rw [if_neg c15] at H
                          have c15b0 : decide ((wrap64 (x8_1 * a2)) < (wrap64 (((rd_T39 l0 x9_2).f0) + ((rd_T39 l0 x9_2).f1)))) = false := decide_eq_false c15
                          clear c15
                          have H' := Aside0.mk H
                          clear H
                          have p243 : 0 ≤ (x9_2 : Int) := of_decide_eq_true (by with_reducible assumption)
                          have q243 : x9_2 < (l0.length : Int) := of_decide_eq_true (by with_reducible assumption)
                          obtain ⟨ad243, e243, hx243_0, hx243_1, hx243_2⟩ := at_T39 HR0.out x9_2 p243 q243
                          cases e243
                          replace hx243_0 := (HB.out.cell (World.block_lt_of_cell? w _ hx243_0)).trans hx243_0
                          replace hx243_1 := (HB.out.cell (World.block_lt_of_cell? w _ hx243_1)).trans hx243_1
                          replace hx243_2 := (HB.out.cell (World.block_lt_of_cell? w _ hx243_2)).trans hx243_2
                          replace p243 := eq_true p243
                          replace q243 := eq_true q243
                          have p244 : 0 ≤ (x9_2 : Int) := of_decide_eq_true (by with_reducible assumption)
                          have q244 : x9_2 < (l0.length : Int) := of_decide_eq_true (by with_reducible assumption)
                          obtain ⟨ad244, e244, hx244_0, hx244_1, hx244_2⟩ := at_T39 HR0.out x9_2 p244 q244
                          obtain rfl : ad243 = ad244 := (by injection e244)
                          replace hx244_0 := (HB.out.cell (World.block_lt_of_cell? w _ hx244_0)).trans hx244_0
                          replace hx244_1 := (HB.out.cell (World.block_lt_of_cell? w _ hx244_1)).trans hx244_1
                          replace hx244_2 := (HB.out.cell (World.block_lt_of_cell? w _ hx244_2)).trans hx244_2
                          replace p244 := eq_true p244
                          replace q244 := eq_true q244
                          have p245 : 0 ≤ (x9_2 : Int) := of_decide_eq_true (by with_reducible assumption)
                          have q245 : x9_2 < (l0.length : Int) := of_decide_eq_true (by with_reducible assumption)
                          obtain ⟨ad245, e245, hx245_0, hx245_1, hx245_2⟩ := at_T39 HR0.out x9_2 p245 q245
                          obtain rfl : ad243 = ad245 := (by injection e245)
                          replace hx245_0 := (HB.out.cell (World.block_lt_of_cell? w _ hx245_0)).trans hx245_0
                          replace hx245_1 := (HB.out.cell (World.block_lt_of_cell? w _ hx245_1)).trans hx245_1
                          replace hx245_2 := (HB.out.cell (World.block_lt_of_cell? w _ hx245_2)).trans hx245_2
                          replace p245 := eq_true p245
                          replace q245 := eq_true q245
                          go_wp2
                          repeat (go_quiet (fail); try go_wp2)
                          (try simp only [← hl7_2])
                          go_roundg k2
                          case measure => have := HK1.out; have := HK2.out; omega
                          case rel => exact ⟨(x7_2), (wrap64 (x9_2 + 1)), (by first | rfl | (simp; done) | (simp [*]; done)), H', ⟨by have := HK1.out; have := HK2.out; omega⟩, ⟨by (try simp only [hl7_2]); (with_reducible repeat (first | apply Kd.R_alloc | apply Kd.R_drewN | apply Kd.R_drew)); exact HO_7.out⟩, ⟨by repeat with_reducible first | exact HB.out | apply below_alloc | apply pw_below_drewN | apply below_drew1⟩⟩
                      · rw [if_neg c14] at H
                        have c14b0 : decide (((rd_T39 l0 x9_2).f0) < (wrap64 ((wrap64 (x8_1 + 1)) * a2))) = false := decide_eq_false c14
                        clear c14
                        have H' := Aside0.mk H
                        clear H
                        have p243 : 0 ≤ (x9_2 : Int) := of_decide_eq_true (by with_reducible assumption)
                        have q243 : x9_2 < (l0.length : Int) := of_decide_eq_true (by with_reducible assumption)
                        obtain ⟨ad243, e243, hx243_0, hx243_1, hx243_2⟩ := at_T39 HR0.out x9_2 p243 q243
                        cases e243
                        replace hx243_0 := (HB.out.cell (World.block_lt_of_cell? w _ hx243_0)).trans hx243_0
                        replace hx243_1 := (HB.out.cell (World.block_lt_of_cell? w _ hx243_1)).trans hx243_1
                        replace hx243_2 := (HB.out.cell (World.block_lt_of_cell? w _ hx243_2)).trans hx243_2
                        replace p243 := eq_true p243
                        replace q243 := eq_true q243
                        go_wp2
                        repeat (go_quiet (fail); try go_wp2)
                        (try simp only [← hl7_2])
                        go_roundg k2
                        case measure => have := HK1.out; have := HK2.out; omega
                        case rel => exact ⟨(x7_2), (wrap64 (x9_2 + 1)), (by first | rfl | (simp; done) | (simp [*]; done)), H', ⟨by have := HK1.out; have := HK2.out; omega⟩, ⟨by (try simp only [hl7_2]); (with_reducible repeat (first | apply Kd.R_alloc | apply Kd.R_drewN | apply Kd.R_drew)); exact HO_7.out⟩, ⟨by repeat with_reducible first | exact HB.out | apply below_alloc | apply pw_below_drewN | apply below_drew1⟩⟩
                    · rw [if_neg c13] at H
                      exact absurd H (by simp)
                  · rw [if_neg c12] at H
                    have c12b0 : decide (x9_2 < (l0.length : Int)) = false := decide_eq_false c12
                    clear c12
                    have H' := Aside0.mk H
                    clear H
                    go_wp2
                    repeat (go_quiet (fail); try go_wp2)
                    (try simp only [← hl7_2])
                    go_roundg k2
                    case measure => have := HK1.out; have := HK2.out; omega
                    case rel => exact ⟨(x7_2), (wrap64 (x8_1 + 1)), (by first | rfl | (simp; done) | (simp [*]; done)), H', ⟨by have := HK1.out; have := HK2.out; omega⟩, ⟨by (try simp only [hl7_2]); (with_reducible repeat (first | apply Kd.R_alloc | apply Kd.R_drewN | apply Kd.R_drew)); exact HO_7.out⟩, ⟨by repeat with_reducible first | exact HB.out | apply below_alloc | apply pw_below_drewN | apply below_drew1⟩⟩
            · rw [if_neg c10] at H
              have c10b0 : decide (x8_1 < (x7_1.length : Int)) = false := decide_eq_false c10
              clear c10
              obtain rfl := Option.some.inj H
              obtain ⟨Ao21, co21, eo21⟩ := Kd.R_slice HO_7.out
              subst eo21
              go_wp2
              repeat (go_quiet (fail); try go_wp2)
              go_ret
              exact ⟨_, by first | rfl | (simp [errW_none, errW_some] <;> rfl) | (simp only [← hji5]; first | rfl | (simp [errW_none, errW_some] <;> rfl)) | (simp [*, errW_none, errW_some] <;> rfl), by (with_reducible repeat (first | apply Kd.R_alloc | apply Kd.R_drewN | apply Kd.R_drew)); exact HO_7.out, by repeat with_reducible first | exact HB.out | apply below_alloc | apply pw_below_drewN | apply below_drew1⟩
      · rw [if_neg c7] at H
        exact absurd H (by simp)
    · rw [if_neg c6] at H
      exact absurd H (by simp)

end Go.Proofs.Ytigecigoomofdaa.PWindowTells
