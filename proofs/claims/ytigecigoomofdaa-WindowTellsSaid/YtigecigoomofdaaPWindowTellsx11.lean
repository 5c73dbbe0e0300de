-- By a program of this session (NOTES.md). Lean checks it.
import Derived.Test.YtigecigoomofdaaPWindowTellsx0
import Derived.Test.YtigecigoomofdaaPWindowTellsx7
namespace Go.Proofs.Ytigecigoomofdaa.PWindowTells
open Go.RowKit Go.Proofs.YtigecigoomofdaaW.PrintWords Go.Proofs.YtigecigoomofdaaW.PrintLast Go.Proofs.YtigecigoomofdaaW.PrintMore
attribute [local go_sem] max2_int min2_int max_two min_two max_three min_three max_four min_four   -- for this text's walks alone
set_option linter.unusedVariables false
set_option linter.unusedSimpArgs false

/-! ### ferruleref9_Runs: function 27 -/
def ferruleref9_Runs.l0 : Nat → List Int → List (S39) → Int → Option ((List (S39)))
  | 0, _, _, _ => none
  | k + 1, x0, x3, x4 => if x4 < (x0.length : Int) then (if 0 ≤ x4 then (if (rd x0 x4) < 0 then (ferruleref9_Runs.l0 k x0 x3 (wrap64 (x4 + 1))) else (if x4 > 0 then (if 0 ≤ (wrap64 (x4 - 1)) then (if (wrap64 (x4 - 1)) < (x0.length : Int) then (if (rd x0 (wrap64 (x4 - 1))) ≥ 0 then (if (wrap64 ((rd x0 (wrap64 (x4 - 1))) + 1)) = (rd x0 x4) then (if 0 ≤ (wrap64 ((x3.length : Int) - 1)) then (if (wrap64 ((x3.length : Int) - 1)) < (x3.length : Int) then (ferruleref9_Runs.l0 k x0 (x3.set ((wrap64 ((x3.length : Int) - 1)) : Int).toNat (⟨(rd_T39 x3 (wrap64 ((x3.length : Int) - 1))).f0, wrap64 (((rd_T39 x3 (wrap64 ((x3.length : Int) - 1))).f1) + 1), (rd_T39 x3 (wrap64 ((x3.length : Int) - 1))).f2⟩ : S39)) (wrap64 (x4 + 1))) else (none)) else (none)) else (if x3.length < 5864062014805 then (ferruleref9_Runs.l0 k x0 (x3 ++ [(⟨x4, 1, rd x0 x4⟩ : S39)]) (wrap64 (x4 + 1))) else (none))) else (if x3.length < 5864062014805 then (ferruleref9_Runs.l0 k x0 (x3 ++ [(⟨x4, 1, rd x0 x4⟩ : S39)]) (wrap64 (x4 + 1))) else (none))) else (none)) else (none)) else (if x3.length < 5864062014805 then (ferruleref9_Runs.l0 k x0 (x3 ++ [(⟨x4, 1, rd x0 x4⟩ : S39)]) (wrap64 (x4 + 1))) else (none)))) else (none)) else (some x3)
def ferruleref9_Runs.f (k : Nat) (l0 : List Int) : Option ((List (S39))) := if 0 ≤ 11728124029610 then (ferruleref9_Runs.l0 k l0 (List.replicate 0 z39) 0) else (none)
theorem ferruleref9_Runs.mono_l : ∀ k, (∀ y0 y1 y2, LeO (ferruleref9_Runs.l0 k y0 y1 y2) (ferruleref9_Runs.l0 (k + 1) y0 y1 y2))
  | 0 => fun _ _ _ r h => by simp [ferruleref9_Runs.l0] at h
  | k + 1 => by
    have ih0 := ferruleref9_Runs.mono_l k
    · intro y0 y1 y2
      unfold ferruleref9_Runs.l0
      repeat' first
      | (with_reducible exact ih0 _ _ _)
      | (with_reducible exact LeO.refl _)
      | (with_reducible exact LeO.none _)
      | (with_reducible refine LeO.ite ?_ ?_)
      | (with_reducible refine LeO.bind ?_ (fun _ => ?_))
      | exact ih0 _ _ _
      | exact LeO.none _
      | refine LeO.ite ?_ ?_
      | refine LeO.bind ?_ (fun _ => ?_)
theorem ferruleref9_Runs.mono : ∀ a0 k, LeO (ferruleref9_Runs.f k a0) (ferruleref9_Runs.f (k + 1) a0) := by
  intro a0 k
  have ih0 := ferruleref9_Runs.mono_l k
  unfold ferruleref9_Runs.f
  repeat' first
      | (with_reducible exact ih0 _ _ _)
      | (with_reducible exact LeO.refl _)
      | (with_reducible exact LeO.none _)
      | (with_reducible refine LeO.ite ?_ ?_)
      | (with_reducible refine LeO.bind ?_ (fun _ => ?_))
      | exact ih0 _ _ _
      | exact LeO.none _
      | refine LeO.ite ?_ ?_
      | refine LeO.bind ?_ (fun _ => ?_)
set_option maxHeartbeats 8000000 in
set_option maxRecDepth 100000 in
theorem ferruleref9_Runs.calls (k : Nat) (A0 : Option Addr) (c0 : Nat) (l0 : List Int) (r : List (S39)) (w : World) (hr0 : Kd.C (Kd.int .i64) w A0 l0.length l0) (hc0 : l0.length ≤ c0) (h : ferruleref9_Runs.f k l0 = some r) :
    Calls Try.prog 27 #[.slice A0 l0.length c0] w fun e w' => ∃ v0_ : Value, e = .returned (v0_) ∧ Kd.R k39 39 w' w.heap.size (fun _ => True) v0_ r ∧ Below w.heap.size w w' := by
 have hu39 := Try.underlying39
 have HR0 := Aside0.mk hr0
 have HC0 := Aside0.mk hc0
 clear hr0 hc0
 have HB := Aside0.mk (Below.refl w.heap.size w)
 have H : (if 0 ≤ 11728124029610 then (ferruleref9_Runs.l0 k l0 (List.replicate 0 z39) 0) else (none)) = some r := h
 clear h
 by_cases c2 : 0 ≤ 11728124029610
 {
 rw [if_pos c2] at H
 have c2b0 := eq_true c2
 have c2b1 : decide (0 ≤ 11728124029610) = true := decide_eq_true c2
 clear c2
 obtain ⟨y290, hy290⟩ : ∃ y_ : List (S39), y_ = (List.replicate 0 z39) := ⟨_, rfl⟩
 replace H : (ferruleref9_Runs.l0 k l0 y290 0) = some r := by first | (rw [hy290]; with_reducible exact H) | (have H2_ := (Option.bind_some _ _).symm.trans H; rw [hy290]; with_reducible exact H2_) | (have H2_ := (Option.bind_some _ _).symm.trans H; with_reducible exact H2_) | with_reducible exact H | (rw [hy290]; exact H) | exact H
 have Ny290 := Aside0.mk hy290
 clear hy290
 have H' := Aside0.mk H
 clear H
 go_enter Try.func27, Try.ntmps27
 go_wp2_with (first | ((with_reducible refine gate_dst (N := 5) rfl ?_); refine Kd.R_make k39 _ 39 rfl (N := 5) rfl 27 _ _ rfl 0 rfl rfl Try.underlying27 (.agg #[(.int .i64 0), (.int .i64 0), (.int .i64 0)]) 24 info39 rfl (by decide) (by omega) z39 (ok := fun _ => True) (okp := fun _ => True) (k39_mkM _ _ _ z39 ) (fun _ hk => hk) trivial (by omega) (by omega) (Below.refl _ _) (Nat.le_refl _) ?_; intro v291 w3 ho4 hb hg_ hnew_; clear hg_ hnew_; (first | rw [← Ny290.out] at ho4 | (simp only [Int.reduceToNat] at ho4; rw [← Ny290.out] at ho4)); have n0_ := Aside0.mk (Kd.R_lower ho4 (below_size (by repeat with_reducible first | exact HB.out | apply below_alloc | apply pw_below_drewN | apply below_drew1))); have n1_ := Aside0.mk (below_step (by repeat with_reducible first | exact HB.out | apply below_alloc | apply pw_below_drewN | apply below_drew1) hb); clear HB; have HO292 := n0_; have HB := n1_; clear n0_ n1_; clear hb ho4))
 repeat (go_quiet (first | ((with_reducible refine gate_dst (N := 5) rfl ?_); refine Kd.R_make k39 _ 39 rfl (N := 5) rfl 27 _ _ rfl 0 rfl rfl Try.underlying27 (.agg #[(.int .i64 0), (.int .i64 0), (.int .i64 0)]) 24 info39 rfl (by decide) (by omega) z39 (ok := fun _ => True) (okp := fun _ => True) (k39_mkM _ _ _ z39 ) (fun _ hk => hk) trivial (by omega) (by omega) (Below.refl _ _) (Nat.le_refl _) ?_; intro v291 w3 ho4 hb hg_ hnew_; clear hg_ hnew_; (first | rw [← Ny290.out] at ho4 | (simp only [Int.reduceToNat] at ho4; rw [← Ny290.out] at ho4)); have n0_ := Aside0.mk (Kd.R_lower ho4 (below_size (by repeat with_reducible first | exact HB.out | apply below_alloc | apply pw_below_drewN | apply below_drew1))); have n1_ := Aside0.mk (below_step (by repeat with_reducible first | exact HB.out | apply below_alloc | apply pw_below_drewN | apply below_drew1) hb); clear HB; have HO292 := n0_; have HB := n1_; clear n0_ n1_; clear hb ho4)); try go_wp2_with (first | ((with_reducible refine gate_dst (N := 5) rfl ?_); refine Kd.R_make k39 _ 39 rfl (N := 5) rfl 27 _ _ rfl 0 rfl rfl Try.underlying27 (.agg #[(.int .i64 0), (.int .i64 0), (.int .i64 0)]) 24 info39 rfl (by decide) (by omega) z39 (ok := fun _ => True) (okp := fun _ => True) (k39_mkM _ _ _ z39 ) (fun _ hk => hk) trivial (by omega) (by omega) (Below.refl _ _) (Nat.le_refl _) ?_; intro v291 w3 ho4 hb hg_ hnew_; clear hg_ hnew_; (first | rw [← Ny290.out] at ho4 | (simp only [Int.reduceToNat] at ho4; rw [← Ny290.out] at ho4)); have n0_ := Aside0.mk (Kd.R_lower ho4 (below_size (by repeat with_reducible first | exact HB.out | apply below_alloc | apply pw_below_drewN | apply below_drew1))); have n1_ := Aside0.mk (below_step (by repeat with_reducible first | exact HB.out | apply below_alloc | apply pw_below_drewN | apply below_drew1) hb); clear HB; have HO292 := n0_; have HB := n1_; clear n0_ n1_; clear hb ho4)))
 go_loopg [3, 4] k (fun kq v3 v4 w' => ∃ (x3_1 : List (S39)) (x4_1 : Int), v4 = .int .i64 x4_1 ∧ Aside0 (ferruleref9_Runs.l0 kq l0 x3_1 x4_1 = some r) ∧ Aside0 (kq ≤ k) ∧ Aside0 (Kd.R k39 39 w' w.heap.size (fun _ => True) v3 x3_1) ∧ Aside0 (Below w.heap.size w w'))
 case atStart => exact ⟨(y290), (0), (by first | rfl | (simp; done) | (simp [*]; done)), H', ⟨Nat.le_refl _⟩, ⟨by (with_reducible repeat (first | apply Kd.R_alloc | apply Kd.R_drewN | apply Kd.R_drew)); exact HO292.out⟩, ⟨by repeat with_reducible first | exact HB.out | apply below_alloc | apply pw_below_drewN | apply below_drew1⟩⟩
 case round =>
  clear H'
  try clear c2
  try clear c2b0
  try clear c2b1
  try clear p2
  obtain ⟨x3_1, x4_1, rfl, HA, HK1, HO_3, HB⟩ := hrel
  cases gk with
  | zero => exact absurd HA.out (by simp [ferruleref9_Runs.l0])
  | succ k1 =>
    have H := HA.out
    clear HA
    simp only [ferruleref9_Runs.l0] at H
    by_cases c5 : x4_1 < (l0.length : Int)
    · rw [if_pos c5] at H
      have c5b0 : decide (x4_1 < (l0.length : Int)) = true := decide_eq_true c5
      clear c5
      by_cases c6 : 0 ≤ x4_1
      · rw [if_pos c6] at H
        have c6b0 : decide (0 ≤ x4_1) = true := decide_eq_true c6
        clear c6
        by_cases c7 : (rd l0 x4_1) < 0
        · rw [if_pos c7] at H
          have c7b0 : decide ((rd l0 x4_1) < 0) = true := decide_eq_true c7
          clear c7
          have H' := Aside0.mk H
          clear H
          have p293 : 0 ≤ (x4_1 : Int) := of_decide_eq_true (by with_reducible assumption)
          have q293 : x4_1 < (l0.length : Int) := of_decide_eq_true (by with_reducible assumption)
          obtain ⟨ad293, e293, hx293_0⟩ := Kd.at_int HR0.out x4_1 p293 q293
          cases e293
          replace hx293_0 := (HB.out.cell (World.block_lt_of_cell? w _ hx293_0)).trans hx293_0
          replace p293 := eq_true p293
          replace q293 := eq_true q293
          go_wp2
          repeat (go_quiet (fail); try go_wp2)
          go_roundg k1
          case measure => have := HK1.out; omega
          case rel => exact ⟨(x3_1), (wrap64 (x4_1 + 1)), (by first | rfl | (simp; done) | (simp [*]; done)), H', ⟨by have := HK1.out; omega⟩, ⟨by (with_reducible repeat (first | apply Kd.R_alloc | apply Kd.R_drewN | apply Kd.R_drew)); exact HO_3.out⟩, ⟨by repeat with_reducible first | exact HB.out | apply below_alloc | apply pw_below_drewN | apply below_drew1⟩⟩
        · rw [if_neg c7] at H
          have c7b0 : decide ((rd l0 x4_1) < 0) = false := decide_eq_false c7
          clear c7
          by_cases c8 : x4_1 > 0
          · rw [if_pos c8] at H
            have c8b0 : decide (0 < x4_1) = true := decide_eq_true c8
            clear c8
            obtain ⟨ji9, hji9⟩ : ∃ j_ : Int, (wrap64 (x4_1 - 1)) = j_ := ⟨_, rfl⟩
            replace H : (if 0 ≤ (ji9) then (if (ji9) < (l0.length : Int) then (if (rd l0 (ji9)) ≥ 0 then (if (wrap64 ((rd l0 (ji9)) + 1)) = (rd l0 x4_1) then (if 0 ≤ (wrap64 ((x3_1.length : Int) - 1)) then (if (wrap64 ((x3_1.length : Int) - 1)) < (x3_1.length : Int) then (ferruleref9_Runs.l0 k1 l0 (x3_1.set ((wrap64 ((x3_1.length : Int) - 1)) : Int).toNat (⟨(rd_T39 x3_1 (wrap64 ((x3_1.length : Int) - 1))).f0, wrap64 (((rd_T39 x3_1 (wrap64 ((x3_1.length : Int) - 1))).f1) + 1), (rd_T39 x3_1 (wrap64 ((x3_1.length : Int) - 1))).f2⟩ : S39)) (wrap64 (x4_1 + 1))) else (none)) else (none)) else (if x3_1.length < 5864062014805 then (ferruleref9_Runs.l0 k1 l0 (x3_1 ++ [(⟨x4_1, 1, rd l0 x4_1⟩ : S39)]) (wrap64 (x4_1 + 1))) else (none))) else (if x3_1.length < 5864062014805 then (ferruleref9_Runs.l0 k1 l0 (x3_1 ++ [(⟨x4_1, 1, rd l0 x4_1⟩ : S39)]) (wrap64 (x4_1 + 1))) else (none))) else (none)) else (none)) = some r := by first | (rw [hji9] at H; exact H) | (simp only [hji9] at H ⊢; exact H)
            have hji9w : (IntKind.i64.wrap (x4_1 - 1)) = ji9 := (i64_w _).trans hji9
            by_cases c10 : 0 ≤ (ji9)
            · rw [if_pos c10] at H
              have c10b0 : decide (0 ≤ (ji9)) = true := decide_eq_true c10
              clear c10
              by_cases c11 : (ji9) < (l0.length : Int)
              · rw [if_pos c11] at H
                have c11b0 : decide ((ji9) < (l0.length : Int)) = true := decide_eq_true c11
                clear c11
                by_cases c12 : (rd l0 (ji9)) ≥ 0
                · rw [if_pos c12] at H
                  have c12b0 : decide (0 ≤ (rd l0 (ji9))) = true := decide_eq_true c12
                  clear c12
                  by_cases c13 : (wrap64 ((rd l0 (ji9)) + 1)) = (rd l0 x4_1)
                  · rw [if_pos c13] at H
                    have c13b0 : ((wrap64 ((rd l0 (ji9)) + 1)) == (rd l0 x4_1)) = true := beq_iff_eq.mpr c13
                    have c13b1 : ((wrap64 ((rd l0 (ji9)) + 1)) != (rd l0 x4_1)) = false := bne_eq_false_iff_eq.mpr c13
                    clear c13
                    obtain ⟨ji14, hji14⟩ : ∃ j_ : Int, (wrap64 ((x3_1.length : Int) - 1)) = j_ := ⟨_, rfl⟩
                    replace H : (if 0 ≤ (ji14) then (if (ji14) < (x3_1.length : Int) then (ferruleref9_Runs.l0 k1 l0 (x3_1.set ((ji14) : Int).toNat (⟨(rd_T39 x3_1 (ji14)).f0, wrap64 (((rd_T39 x3_1 (ji14)).f1) + 1), (rd_T39 x3_1 (ji14)).f2⟩ : S39)) (wrap64 (x4_1 + 1))) else (none)) else (none)) = some r := by first | (rw [hji14] at H; exact H) | (simp only [hji14] at H ⊢; exact H)
                    have hji14w : (IntKind.i64.wrap ((x3_1.length : Int) - 1)) = ji14 := (i64_w _).trans hji14
                    by_cases c15 : 0 ≤ (ji14)
                    · rw [if_pos c15] at H
                      have c15b0 : decide (0 ≤ (ji14)) = true := decide_eq_true c15
                      clear c15
                      by_cases c16 : (ji14) < (x3_1.length : Int)
                      · rw [if_pos c16] at H
                        have c16b0 : decide ((ji14) < (x3_1.length : Int)) = true := decide_eq_true c16
                        clear c16
                        obtain ⟨y298, hy298⟩ : ∃ y_ : List (S39), y_ = (x3_1.set ((ji14) : Int).toNat (⟨(rd_T39 x3_1 (ji14)).f0, wrap64 (((rd_T39 x3_1 (ji14)).f1) + 1), (rd_T39 x3_1 (ji14)).f2⟩ : S39)) := ⟨_, rfl⟩
                        replace H : (ferruleref9_Runs.l0 k1 l0 y298 (wrap64 (x4_1 + 1))) = some r := by first | (rw [hy298]; with_reducible exact H) | (have H2_ := (Option.bind_some _ _).symm.trans H; rw [hy298]; with_reducible exact H2_) | (have H2_ := (Option.bind_some _ _).symm.trans H; with_reducible exact H2_) | with_reducible exact H | (rw [hy298]; exact H) | exact H
                        have Ny298 := Aside0.mk hy298
                        clear hy298
                        have H' := Aside0.mk H
                        clear H
                        have p293 : 0 ≤ (x4_1 : Int) := of_decide_eq_true (by with_reducible assumption)
                        have q293 : x4_1 < (l0.length : Int) := of_decide_eq_true (by with_reducible assumption)
                        obtain ⟨ad293, e293, hx293_0⟩ := Kd.at_int HR0.out x4_1 p293 q293
                        cases e293
                        replace hx293_0 := (HB.out.cell (World.block_lt_of_cell? w _ hx293_0)).trans hx293_0
                        replace p293 := eq_true p293
                        replace q293 := eq_true q293
                        have p294 : 0 ≤ ((ji9) : Int) := of_decide_eq_true (by with_reducible assumption)
                        have q294 : (ji9) < (l0.length : Int) := of_decide_eq_true (by with_reducible assumption)
                        obtain ⟨ad294, e294, hx294_0⟩ := Kd.at_int HR0.out (ji9) p294 q294
                        obtain rfl : ad293 = ad294 := (by injection e294)
                        replace hx294_0 := (HB.out.cell (World.block_lt_of_cell? w _ hx294_0)).trans hx294_0
                        replace p294 := eq_true p294
                        replace q294 := eq_true q294
                        have p295 : 0 ≤ ((ji9) : Int) := of_decide_eq_true (by with_reducible assumption)
                        have q295 : (ji9) < (l0.length : Int) := of_decide_eq_true (by with_reducible assumption)
                        obtain ⟨ad295, e295, hx295_0⟩ := Kd.at_int HR0.out (ji9) p295 q295
                        obtain rfl : ad293 = ad295 := (by injection e295)
                        replace hx295_0 := (HB.out.cell (World.block_lt_of_cell? w _ hx295_0)).trans hx295_0
                        replace p295 := eq_true p295
                        replace q295 := eq_true q295
                        have p296 : 0 ≤ (x4_1 : Int) := of_decide_eq_true (by with_reducible assumption)
                        have q296 : x4_1 < (l0.length : Int) := of_decide_eq_true (by with_reducible assumption)
                        obtain ⟨ad296, e296, hx296_0⟩ := Kd.at_int HR0.out x4_1 p296 q296
                        obtain rfl : ad293 = ad296 := (by injection e296)
                        replace hx296_0 := (HB.out.cell (World.block_lt_of_cell? w _ hx296_0)).trans hx296_0
                        replace p296 := eq_true p296
                        replace q296 := eq_true q296
                        obtain ⟨Ao18, co18, eo18⟩ := Kd.R_slice HO_3.out
                        subst eo18
                        have p297 : 0 ≤ ((ji14) : Int) := of_decide_eq_true (by with_reducible assumption)
                        have q297 : (ji14) < (x3_1.length : Int) := of_decide_eq_true (by with_reducible assumption)
                        obtain ⟨ad297, e297, hx297_0, hx297_1, hx297_2⟩ := at_T39 (Kd.R_reads' HO_3.out).2.2 (ji14) p297 q297
                        cases e297
                        replace p297 := eq_true p297
                        replace q297 := eq_true q297
                        have p17 : 0 ≤ ((ji14) : Int) := of_decide_eq_true (by with_reducible assumption)
                        have q17 : ((ji14) : Int) < ((x3_1.length : Int) : Int) := of_decide_eq_true (by with_reducible assumption)
                        obtain ⟨go17, co17, eo17, gb17, gl17, cl17, HG17⟩ := Kd.R_form HO_3.out (by omega)
                        (first | cases eo17 | (injection eo17 with ea_ en_ ec_; (first | subst ea_ | (injection ea_ with ea_; subst ea_)); subst ec_; clear en_))
                        have GB17 := Aside0.mk gb17
                        have GG17 := Aside0.mk HG17
                        clear gb17 gl17 HG17
                        (first | simp only [add_plain] at hx297_0 | skip)
                        (first | simp only [add_plain] at hx297_1 | skip)
                        (first | simp only [add_plain] at hx297_2 | skip)
                        obtain ⟨ce17, hcl17, hM17, hcc17, hfr17⟩ := Kd.R_elem HO_3.out z39 ((ji14) : Int) p17 q17
                        obtain rfl := k39_openM hM17
                        have hx17_0 : wr.cell? ⟨go17, ((ji14) : Int).toNat * 3, none⟩ = some (.int .i64 ((rd_T39 x3_1 (ji14)).f0)) := hcc17 0 _ rfl
                        have hx17_1 : wr.cell? ⟨go17, ((ji14) : Int).toNat * 3 + 1, none⟩ = some (.int .i64 ((rd_T39 x3_1 (ji14)).f1)) := hcc17 1 _ rfl
                        have hx17_2 : wr.cell? ⟨go17, ((ji14) : Int).toNat * 3 + 2, none⟩ = some (.int .i64 ((rd_T39 x3_1 (ji14)).f2)) := hcc17 2 _ rfl
                        have hf17_0 : wr.frozen? ⟨go17, ((ji14) : Int).toNat * 3, none⟩ = false := hfr17 0
                        have hf17_1 : wr.frozen? ⟨go17, ((ji14) : Int).toNat * 3 + 1, none⟩ = false := hfr17 1
                        have hf17_2 : wr.frozen? ⟨go17, ((ji14) : Int).toNat * 3 + 2, none⟩ = false := hfr17 2
                        clear hcl17 hcc17 hfr17 hM17
                        replace p17 := eq_true p17
                        replace q17 := eq_true q17
                        have HX19 := Aside0.mk (show Kd.R k39 39 wr w.heap.size (fun _ => True) (.slice (some ⟨go17, 0, none⟩) x3_1.length co18) x3_1 from (by (with_reducible repeat (first | apply Kd.R_alloc | apply Kd.R_drewN | apply Kd.R_drew)); exact HO_3.out))
                        obtain ⟨ce19, hcl19, hM19, hcc19, hfr19⟩ := Kd.R_elem HX19.out z39 ((ji14) : Int) (of_decide_eq_true (by with_reducible assumption)) (by have h_ : ((ji14) : Int) < ((x3_1.length : Int) : Int) := of_decide_eq_true (by with_reducible assumption); first | exact h_ | (have e_ := (Kd.R_reads' HO_3.out).1; omega) | simpa using h_)
                        obtain rfl := k39_openM hM19
                        have HP19 := Kd.R_seg HX19.out ((ji14) : Int) (of_decide_eq_true (by with_reducible assumption)) (by have h_ : ((ji14) : Int) < ((x3_1.length : Int) : Int) := of_decide_eq_true (by with_reducible assumption); first | exact h_ | (have e_ := (Kd.R_reads' HO_3.out).1; omega) | simpa using h_) (seg := [.int .i64 (wrap64 (((rd_T39 x3_1 (ji14)).f1) + 1))]) (j := 1) hcl19 hcc19 (show 2 ≤ 3 from by decide) (x' := (⟨(rd_T39 x3_1 (ji14)).f0, wrap64 (((rd_T39 x3_1 (ji14)).f1) + 1), (rd_T39 x3_1 (ji14)).f2⟩ : S39)) (k39_mkM _ _ _ (⟨(rd_T39 x3_1 (ji14)).f0, wrap64 (((rd_T39 x3_1 (ji14)).f1) + 1), (rd_T39 x3_1 (ji14)).f2⟩ : S39) ) (fun _ hk => hk)
                        have hx19_1 := hcc19 1 _ rfl
                        (try simp only [show (k39).sz = 3 from rfl, Nat.mul_one, Nat.add_zero] at hx19_1)
                        have hf19_1 := hfr19 1
                        (try simp only [show (k39).sz = 3 from rfl, Nat.mul_one, Nat.add_zero] at hf19_1)
                        clear hcl19 hcc19 hfr19 hM19
                        go_wp2_with (first | ((with_reducible refine gate_store (t := 3) (p := 49) rfl ?_); (try (rw [drewN_self wr]; generalize hq_ : World.drewN wr _ = wr; have n0_ := Aside0.mk (Kd.R_at hq_ HO_3.out); have n1_ := Aside0.mk (below_at hq_ HB.out); clear hq_ HO_3 HB; have HO_3 := n0_; have HB := n1_; clear n0_ n1_; (try (have HX19 := Aside0.mk (show Kd.R k39 39 wr w.heap.size (fun _ => True) (.slice (some ⟨go17, 0, none⟩) x3_1.length co18) x3_1 from (by (with_reducible repeat (first | apply Kd.R_alloc | apply Kd.R_drewN | apply Kd.R_drew)); exact HO_3.out)))); (try (obtain ⟨ce19, hcl19, hM19, hcc19, hfr19⟩ := Kd.R_elem HX19.out z39 ((ji14) : Int) (of_decide_eq_true (by with_reducible assumption)) (by have h_ : ((ji14) : Int) < ((x3_1.length : Int) : Int) := of_decide_eq_true (by with_reducible assumption); first | exact h_ | (have e_ := (Kd.R_reads' HO_3.out).1; omega) | simpa using h_))); (try (obtain rfl := k39_openM hM19)); (try (have HP19 := Kd.R_seg HX19.out ((ji14) : Int) (of_decide_eq_true (by with_reducible assumption)) (by have h_ : ((ji14) : Int) < ((x3_1.length : Int) : Int) := of_decide_eq_true (by with_reducible assumption); first | exact h_ | (have e_ := (Kd.R_reads' HO_3.out).1; omega) | simpa using h_) (seg := [.int .i64 (wrap64 (((rd_T39 x3_1 (ji14)).f1) + 1))]) (j := 1) hcl19 hcc19 (show 2 ≤ 3 from by decide) (x' := (⟨(rd_T39 x3_1 (ji14)).f0, wrap64 (((rd_T39 x3_1 (ji14)).f1) + 1), (rd_T39 x3_1 (ji14)).f2⟩ : S39)) (k39_mkM _ _ _ (⟨(rd_T39 x3_1 (ji14)).f0, wrap64 (((rd_T39 x3_1 (ji14)).f1) + 1), (rd_T39 x3_1 (ji14)).f2⟩ : S39) ) (fun _ hk => hk))); (try (have hx19_1 := hcc19 1 _ rfl)); (try (try simp only [show (k39).sz = 3 from rfl, Nat.mul_one, Nat.add_zero] at hx19_1)); (try (have hf19_1 := hfr19 1)); (try (try simp only [show (k39).sz = 3 from rfl, Nat.mul_one, Nat.add_zero] at hf19_1)); (try (clear hcl19 hcc19 hfr19 hM19)))); refine store_event (t := 3) (p := 49) (v := ?vo_w20) (w1 := (wr.setCell ⟨go17, ((ji14) : Int).toNat * 3 + 1, none⟩ (.int .i64 (wrap64 (((rd_T39 x3_1 (ji14)).f1) + 1))))) ?hg ?ho ?hn ?hr ?_; (case ho => rfl); (case hg => rfl); (case hn => rfl); (case hr => first | (go_simp; done) | (go_simp; rfl)); intro w20 hw; have hg : wr.grownBy w20 (some go17) := (by rw [hw]; exact HP19.2); have hp_ : Kd.R k39 39 w20 w.heap.size (fun _ => True) (.slice (some ⟨go17, 0, none⟩) x3_1.length co18) y298 := (by rw [hw, Ny298.out]; exact HP19.1); clear HP19; have n0_ := Aside0.mk (hp_); have n1_ := Aside0.mk ((by rw [hw]; exact below_set (HB.out) GB17.out : Below w.heap.size w w20)); clear HO_3; clear HB; have HO_3 := n0_; have HB := n1_; clear n0_ n1_; clear hg hw hp_))
                        repeat (go_quiet (fail); try go_wp2_with (first | ((with_reducible refine gate_store (t := 3) (p := 49) rfl ?_); (try (rw [drewN_self wr]; generalize hq_ : World.drewN wr _ = wr; have n0_ := Aside0.mk (Kd.R_at hq_ HO_3.out); have n1_ := Aside0.mk (below_at hq_ HB.out); clear hq_ HO_3 HB; have HO_3 := n0_; have HB := n1_; clear n0_ n1_; (try (have HX19 := Aside0.mk (show Kd.R k39 39 wr w.heap.size (fun _ => True) (.slice (some ⟨go17, 0, none⟩) x3_1.length co18) x3_1 from (by (with_reducible repeat (first | apply Kd.R_alloc | apply Kd.R_drewN | apply Kd.R_drew)); exact HO_3.out)))); (try (obtain ⟨ce19, hcl19, hM19, hcc19, hfr19⟩ := Kd.R_elem HX19.out z39 ((ji14) : Int) (of_decide_eq_true (by with_reducible assumption)) (by have h_ : ((ji14) : Int) < ((x3_1.length : Int) : Int) := of_decide_eq_true (by with_reducible assumption); first | exact h_ | (have e_ := (Kd.R_reads' HO_3.out).1; omega) | simpa using h_))); (try (obtain rfl := k39_openM hM19)); (try (have HP19 := Kd.R_seg HX19.out ((ji14) : Int) (of_decide_eq_true (by with_reducible assumption)) (by have h_ : ((ji14) : Int) < ((x3_1.length : Int) : Int) := of_decide_eq_true (by with_reducible assumption); first | exact h_ | (have e_ := (Kd.R_reads' HO_3.out).1; omega) | simpa using h_) (seg := [.int .i64 (wrap64 (((rd_T39 x3_1 (ji14)).f1) + 1))]) (j := 1) hcl19 hcc19 (show 2 ≤ 3 from by decide) (x' := (⟨(rd_T39 x3_1 (ji14)).f0, wrap64 (((rd_T39 x3_1 (ji14)).f1) + 1), (rd_T39 x3_1 (ji14)).f2⟩ : S39)) (k39_mkM _ _ _ (⟨(rd_T39 x3_1 (ji14)).f0, wrap64 (((rd_T39 x3_1 (ji14)).f1) + 1), (rd_T39 x3_1 (ji14)).f2⟩ : S39) ) (fun _ hk => hk))); (try (have hx19_1 := hcc19 1 _ rfl)); (try (try simp only [show (k39).sz = 3 from rfl, Nat.mul_one, Nat.add_zero] at hx19_1)); (try (have hf19_1 := hfr19 1)); (try (try simp only [show (k39).sz = 3 from rfl, Nat.mul_one, Nat.add_zero] at hf19_1)); (try (clear hcl19 hcc19 hfr19 hM19)))); refine store_event (t := 3) (p := 49) (v := ?vo_w20) (w1 := (wr.setCell ⟨go17, ((ji14) : Int).toNat * 3 + 1, none⟩ (.int .i64 (wrap64 (((rd_T39 x3_1 (ji14)).f1) + 1))))) ?hg ?ho ?hn ?hr ?_; (case ho => rfl); (case hg => rfl); (case hn => rfl); (case hr => first | (go_simp; done) | (go_simp; rfl)); intro w20 hw; have hg : wr.grownBy w20 (some go17) := (by rw [hw]; exact HP19.2); have hp_ : Kd.R k39 39 w20 w.heap.size (fun _ => True) (.slice (some ⟨go17, 0, none⟩) x3_1.length co18) y298 := (by rw [hw, Ny298.out]; exact HP19.1); clear HP19; have n0_ := Aside0.mk (hp_); have n1_ := Aside0.mk ((by rw [hw]; exact below_set (HB.out) GB17.out : Below w.heap.size w w20)); clear HO_3; clear HB; have HO_3 := n0_; have HB := n1_; clear n0_ n1_; clear hg hw hp_)))
                        go_roundg k1
                        case measure => have := HK1.out; omega
                        case rel => exact ⟨(y298), (wrap64 (x4_1 + 1)), (by first | rfl | (simp; done) | (simp [*]; done)), H', ⟨by have := HK1.out; omega⟩, ⟨by (with_reducible repeat (first | apply Kd.R_alloc | apply Kd.R_drewN | apply Kd.R_drew)); exact HO_3.out⟩, ⟨by repeat with_reducible first | exact HB.out | apply below_alloc | apply pw_below_drewN | apply below_drew1⟩⟩
                      · rw [if_neg c16] at H
                        exact absurd H (by simp)
                    · rw [if_neg c15] at H
                      exact absurd H (by simp)
                  · rw [if_neg c13] at H
                    have c13b0 : ((wrap64 ((rd l0 (ji9)) + 1)) == (rd l0 x4_1)) = false := beq_eq_false_iff_ne.mpr c13
                    have c13b1 : ((wrap64 ((rd l0 (ji9)) + 1)) != (rd l0 x4_1)) = true := bne_iff_ne.mpr c13
                    by_cases c21 : x3_1.length < 5864062014805
                    · rw [if_pos c21] at H
                      have LMc21 := Aside0.mk c21
                      clear c21
                      obtain ⟨y300, hy300⟩ : ∃ y_ : List (S39), y_ = (x3_1 ++ [(⟨x4_1, 1, rd l0 x4_1⟩ : S39)]) := ⟨_, rfl⟩
                      replace H : (ferruleref9_Runs.l0 k1 l0 y300 (wrap64 (x4_1 + 1))) = some r := by first | (rw [hy300]; with_reducible exact H) | (have H2_ := (Option.bind_some _ _).symm.trans H; rw [hy300]; with_reducible exact H2_) | (have H2_ := (Option.bind_some _ _).symm.trans H; with_reducible exact H2_) | with_reducible exact H | (rw [hy300]; exact H) | exact H
                      have Ny300 := Aside0.mk hy300
                      clear hy300
                      have H' := Aside0.mk H
                      clear H
                      have p293 : 0 ≤ (x4_1 : Int) := of_decide_eq_true (by with_reducible assumption)
                      have q293 : x4_1 < (l0.length : Int) := of_decide_eq_true (by with_reducible assumption)
                      obtain ⟨ad293, e293, hx293_0⟩ := Kd.at_int HR0.out x4_1 p293 q293
                      cases e293
                      replace hx293_0 := (HB.out.cell (World.block_lt_of_cell? w _ hx293_0)).trans hx293_0
                      replace p293 := eq_true p293
                      replace q293 := eq_true q293
                      have p294 : 0 ≤ ((ji9) : Int) := of_decide_eq_true (by with_reducible assumption)
                      have q294 : (ji9) < (l0.length : Int) := of_decide_eq_true (by with_reducible assumption)
                      obtain ⟨ad294, e294, hx294_0⟩ := Kd.at_int HR0.out (ji9) p294 q294
                      obtain rfl : ad293 = ad294 := (by injection e294)
                      replace hx294_0 := (HB.out.cell (World.block_lt_of_cell? w _ hx294_0)).trans hx294_0
                      replace p294 := eq_true p294
                      replace q294 := eq_true q294
                      have p295 : 0 ≤ ((ji9) : Int) := of_decide_eq_true (by with_reducible assumption)
                      have q295 : (ji9) < (l0.length : Int) := of_decide_eq_true (by with_reducible assumption)
                      obtain ⟨ad295, e295, hx295_0⟩ := Kd.at_int HR0.out (ji9) p295 q295
                      obtain rfl : ad293 = ad295 := (by injection e295)
                      replace hx295_0 := (HB.out.cell (World.block_lt_of_cell? w _ hx295_0)).trans hx295_0
                      replace p295 := eq_true p295
                      replace q295 := eq_true q295
                      have p296 : 0 ≤ (x4_1 : Int) := of_decide_eq_true (by with_reducible assumption)
                      have q296 : x4_1 < (l0.length : Int) := of_decide_eq_true (by with_reducible assumption)
                      obtain ⟨ad296, e296, hx296_0⟩ := Kd.at_int HR0.out x4_1 p296 q296
                      obtain rfl : ad293 = ad296 := (by injection e296)
                      replace hx296_0 := (HB.out.cell (World.block_lt_of_cell? w _ hx296_0)).trans hx296_0
                      replace p296 := eq_true p296
                      replace q296 := eq_true q296
                      have p299 : 0 ≤ (x4_1 : Int) := of_decide_eq_true (by with_reducible assumption)
                      have q299 : x4_1 < (l0.length : Int) := of_decide_eq_true (by with_reducible assumption)
                      obtain ⟨ad299, e299, hx299_0⟩ := Kd.at_int HR0.out x4_1 p299 q299
                      obtain rfl : ad293 = ad299 := (by injection e299)
                      replace hx299_0 := (HB.out.cell (World.block_lt_of_cell? w _ hx299_0)).trans hx299_0
                      replace p299 := eq_true p299
                      replace q299 := eq_true q299
                      go_wp2_with (first | ((with_reducible refine gate_builtin (b := .append) (xs := #[.tmp 50, .tmp 57]) rfl ?_); at_builtin; refine Kd.R_append k39 (w0 := w) w.heap.size rfl (.tmp 50) (.tmp 57) 27 39 (.agg #[(.int .i64 0), (.int .i64 0), (.int .i64 0)]) 24 rfl Try.underlying27 info39 rfl (by decide) (by omega) u3 x3_1 (⟨x4_1, 1, rd l0 x4_1⟩ : S39) [.int .i64 x4_1, .int .i64 1, .int .i64 (rd l0 x4_1)] (fun _ => True) (fun _ => False) rfl rfl ?aP (fun _ hk => hk.elim) ?aF ?aO ?aB ?aS ?aL ?_; (case aP => exact k39_mkM _ _ _ (⟨x4_1, 1, rd l0 x4_1⟩ : S39)); (case aB => exact (by repeat with_reducible first | exact HB.out | apply below_alloc | apply pw_below_drewN | apply below_drew1)); (case aF => exact (fun _ _ => trivial)); (case aO => exact (by (with_reducible repeat (first | apply Kd.R_alloc | apply Kd.R_drewN | apply Kd.R_drew)); exact HO_3.out)); (case aS => exact (below_size (by repeat with_reducible first | exact HB.out | apply below_alloc | apply pw_below_drewN | apply below_drew1))); (case aL => have := LMc21.out; omega); intro v301 w22 ho hb hg hat; rw [← Ny300.out] at ho; have n0_ := Aside0.mk (hb); have n1_ := Aside0.mk (ho); clear HB; clear HO_3; have HB := n0_; have HO302 := n1_; clear n0_ n1_; clear ho hb hg hat))
                      repeat (go_quiet (first | ((with_reducible refine gate_builtin (b := .append) (xs := #[.tmp 50, .tmp 57]) rfl ?_); at_builtin; refine Kd.R_append k39 (w0 := w) w.heap.size rfl (.tmp 50) (.tmp 57) 27 39 (.agg #[(.int .i64 0), (.int .i64 0), (.int .i64 0)]) 24 rfl Try.underlying27 info39 rfl (by decide) (by omega) u3 x3_1 (⟨x4_1, 1, rd l0 x4_1⟩ : S39) [.int .i64 x4_1, .int .i64 1, .int .i64 (rd l0 x4_1)] (fun _ => True) (fun _ => False) rfl rfl ?aP (fun _ hk => hk.elim) ?aF ?aO ?aB ?aS ?aL ?_; (case aP => exact k39_mkM _ _ _ (⟨x4_1, 1, rd l0 x4_1⟩ : S39)); (case aB => exact (by repeat with_reducible first | exact HB.out | apply below_alloc | apply pw_below_drewN | apply below_drew1)); (case aF => exact (fun _ _ => trivial)); (case aO => exact (by (with_reducible repeat (first | apply Kd.R_alloc | apply Kd.R_drewN | apply Kd.R_drew)); exact HO_3.out)); (case aS => exact (below_size (by repeat with_reducible first | exact HB.out | apply below_alloc | apply pw_below_drewN | apply below_drew1))); (case aL => have := LMc21.out; omega); intro v301 w22 ho hb hg hat; rw [← Ny300.out] at ho; have n0_ := Aside0.mk (hb); have n1_ := Aside0.mk (ho); clear HB; clear HO_3; have HB := n0_; have HO302 := n1_; clear n0_ n1_; clear ho hb hg hat)); try go_wp2_with (first | ((with_reducible refine gate_builtin (b := .append) (xs := #[.tmp 50, .tmp 57]) rfl ?_); at_builtin; refine Kd.R_append k39 (w0 := w) w.heap.size rfl (.tmp 50) (.tmp 57) 27 39 (.agg #[(.int .i64 0), (.int .i64 0), (.int .i64 0)]) 24 rfl Try.underlying27 info39 rfl (by decide) (by omega) u3 x3_1 (⟨x4_1, 1, rd l0 x4_1⟩ : S39) [.int .i64 x4_1, .int .i64 1, .int .i64 (rd l0 x4_1)] (fun _ => True) (fun _ => False) rfl rfl ?aP (fun _ hk => hk.elim) ?aF ?aO ?aB ?aS ?aL ?_; (case aP => exact k39_mkM _ _ _ (⟨x4_1, 1, rd l0 x4_1⟩ : S39)); (case aB => exact (by repeat with_reducible first | exact HB.out | apply below_alloc | apply pw_below_drewN | apply below_drew1)); (case aF => exact (fun _ _ => trivial)); (case aO => exact (by (with_reducible repeat (first | apply Kd.R_alloc | apply Kd.R_drewN | apply Kd.R_drew)); exact HO_3.out)); (case aS => exact (below_size (by repeat with_reducible first | exact HB.out | apply below_alloc | apply pw_below_drewN | apply below_drew1))); (case aL => have := LMc21.out; omega); intro v301 w22 ho hb hg hat; rw [← Ny300.out] at ho; have n0_ := Aside0.mk (hb); have n1_ := Aside0.mk (ho); clear HB; clear HO_3; have HB := n0_; have HO302 := n1_; clear n0_ n1_; clear ho hb hg hat)))
                      go_roundg k1
                      case measure => have := HK1.out; omega
                      case rel => exact ⟨(y300), (wrap64 (x4_1 + 1)), (by first | rfl | (simp; done) | (simp [*]; done)), H', ⟨by have := HK1.out; omega⟩, ⟨by (with_reducible repeat (first | apply Kd.R_alloc | apply Kd.R_drewN | apply Kd.R_drew)); exact HO302.out⟩, ⟨by repeat with_reducible first | exact HB.out | apply below_alloc | apply pw_below_drewN | apply below_drew1⟩⟩
                    · rw [if_neg c21] at H
                      exact absurd H (by simp)
                · rw [if_neg c12] at H
                  have c12b0 : decide (0 ≤ (rd l0 (ji9))) = false := decide_eq_false c12
                  clear c12
                  by_cases c23 : x3_1.length < 5864062014805
                  · rw [if_pos c23] at H
                    have LMc23 := Aside0.mk c23
                    clear c23
                    obtain ⟨y304, hy304⟩ : ∃ y_ : List (S39), y_ = (x3_1 ++ [(⟨x4_1, 1, rd l0 x4_1⟩ : S39)]) := ⟨_, rfl⟩
                    replace H : (ferruleref9_Runs.l0 k1 l0 y304 (wrap64 (x4_1 + 1))) = some r := by first | (rw [hy304]; with_reducible exact H) | (have H2_ := (Option.bind_some _ _).symm.trans H; rw [hy304]; with_reducible exact H2_) | (have H2_ := (Option.bind_some _ _).symm.trans H; with_reducible exact H2_) | with_reducible exact H | (rw [hy304]; exact H) | exact H
                    have Ny304 := Aside0.mk hy304
                    clear hy304
                    have H' := Aside0.mk H
                    clear H
                    have p293 : 0 ≤ (x4_1 : Int) := of_decide_eq_true (by with_reducible assumption)
                    have q293 : x4_1 < (l0.length : Int) := of_decide_eq_true (by with_reducible assumption)
                    obtain ⟨ad293, e293, hx293_0⟩ := Kd.at_int HR0.out x4_1 p293 q293
                    cases e293
                    replace hx293_0 := (HB.out.cell (World.block_lt_of_cell? w _ hx293_0)).trans hx293_0
                    replace p293 := eq_true p293
                    replace q293 := eq_true q293
                    have p294 : 0 ≤ ((ji9) : Int) := of_decide_eq_true (by with_reducible assumption)
                    have q294 : (ji9) < (l0.length : Int) := of_decide_eq_true (by with_reducible assumption)
                    obtain ⟨ad294, e294, hx294_0⟩ := Kd.at_int HR0.out (ji9) p294 q294
                    obtain rfl : ad293 = ad294 := (by injection e294)
                    replace hx294_0 := (HB.out.cell (World.block_lt_of_cell? w _ hx294_0)).trans hx294_0
                    replace p294 := eq_true p294
                    replace q294 := eq_true q294
                    have p303 : 0 ≤ (x4_1 : Int) := of_decide_eq_true (by with_reducible assumption)
                    have q303 : x4_1 < (l0.length : Int) := of_decide_eq_true (by with_reducible assumption)
                    obtain ⟨ad303, e303, hx303_0⟩ := Kd.at_int HR0.out x4_1 p303 q303
                    obtain rfl : ad293 = ad303 := (by injection e303)
                    replace hx303_0 := (HB.out.cell (World.block_lt_of_cell? w _ hx303_0)).trans hx303_0
                    replace p303 := eq_true p303
                    replace q303 := eq_true q303
                    go_wp2_with (first | ((with_reducible refine gate_builtin (b := .append) (xs := #[.tmp 50, .tmp 57]) rfl ?_); at_builtin; refine Kd.R_append k39 (w0 := w) w.heap.size rfl (.tmp 50) (.tmp 57) 27 39 (.agg #[(.int .i64 0), (.int .i64 0), (.int .i64 0)]) 24 rfl Try.underlying27 info39 rfl (by decide) (by omega) u3 x3_1 (⟨x4_1, 1, rd l0 x4_1⟩ : S39) [.int .i64 x4_1, .int .i64 1, .int .i64 (rd l0 x4_1)] (fun _ => True) (fun _ => False) rfl rfl ?aP (fun _ hk => hk.elim) ?aF ?aO ?aB ?aS ?aL ?_; (case aP => exact k39_mkM _ _ _ (⟨x4_1, 1, rd l0 x4_1⟩ : S39)); (case aB => exact (by repeat with_reducible first | exact HB.out | apply below_alloc | apply pw_below_drewN | apply below_drew1)); (case aF => exact (fun _ _ => trivial)); (case aO => exact (by (with_reducible repeat (first | apply Kd.R_alloc | apply Kd.R_drewN | apply Kd.R_drew)); exact HO_3.out)); (case aS => exact (below_size (by repeat with_reducible first | exact HB.out | apply below_alloc | apply pw_below_drewN | apply below_drew1))); (case aL => have := LMc23.out; omega); intro v305 w24 ho hb hg hat; rw [← Ny304.out] at ho; have n0_ := Aside0.mk (hb); have n1_ := Aside0.mk (ho); clear HB; clear HO_3; have HB := n0_; have HO306 := n1_; clear n0_ n1_; clear ho hb hg hat))
                    repeat (go_quiet (first | ((with_reducible refine gate_builtin (b := .append) (xs := #[.tmp 50, .tmp 57]) rfl ?_); at_builtin; refine Kd.R_append k39 (w0 := w) w.heap.size rfl (.tmp 50) (.tmp 57) 27 39 (.agg #[(.int .i64 0), (.int .i64 0), (.int .i64 0)]) 24 rfl Try.underlying27 info39 rfl (by decide) (by omega) u3 x3_1 (⟨x4_1, 1, rd l0 x4_1⟩ : S39) [.int .i64 x4_1, .int .i64 1, .int .i64 (rd l0 x4_1)] (fun _ => True) (fun _ => False) rfl rfl ?aP (fun _ hk => hk.elim) ?aF ?aO ?aB ?aS ?aL ?_; (case aP => exact k39_mkM _ _ _ (⟨x4_1, 1, rd l0 x4_1⟩ : S39)); (case aB => exact (by repeat with_reducible first | exact HB.out | apply below_alloc | apply pw_below_drewN | apply below_drew1)); (case aF => exact (fun _ _ => trivial)); (case aO => exact (by (with_reducible repeat (first | apply Kd.R_alloc | apply Kd.R_drewN | apply Kd.R_drew)); exact HO_3.out)); (case aS => exact (below_size (by repeat with_reducible first | exact HB.out | apply below_alloc | apply pw_below_drewN | apply below_drew1))); (case aL => have := LMc23.out; omega); intro v305 w24 ho hb hg hat; rw [← Ny304.out] at ho; have n0_ := Aside0.mk (hb); have n1_ := Aside0.mk (ho); clear HB; clear HO_3; have HB := n0_; have HO306 := n1_; clear n0_ n1_; clear ho hb hg hat)); try go_wp2_with (first | ((with_reducible refine gate_builtin (b := .append) (xs := #[.tmp 50, .tmp 57]) rfl ?_); at_builtin; refine Kd.R_append k39 (w0 := w) w.heap.size rfl (.tmp 50) (.tmp 57) 27 39 (.agg #[(.int .i64 0), (.int .i64 0), (.int .i64 0)]) 24 rfl Try.underlying27 info39 rfl (by decide) (by omega) u3 x3_1 (⟨x4_1, 1, rd l0 x4_1⟩ : S39) [.int .i64 x4_1, .int .i64 1, .int .i64 (rd l0 x4_1)] (fun _ => True) (fun _ => False) rfl rfl ?aP (fun _ hk => hk.elim) ?aF ?aO ?aB ?aS ?aL ?_; (case aP => exact k39_mkM _ _ _ (⟨x4_1, 1, rd l0 x4_1⟩ : S39)); (case aB => exact (by repeat with_reducible first | exact HB.out | apply below_alloc | apply pw_below_drewN | apply below_drew1)); (case aF => exact (fun _ _ => trivial)); (case aO => exact (by (with_reducible repeat (first | apply Kd.R_alloc | apply Kd.R_drewN | apply Kd.R_drew)); exact HO_3.out)); (case aS => exact (below_size (by repeat with_reducible first | exact HB.out | apply below_alloc | apply pw_below_drewN | apply below_drew1))); (case aL => have := LMc23.out; omega); intro v305 w24 ho hb hg hat; rw [← Ny304.out] at ho; have n0_ := Aside0.mk (hb); have n1_ := Aside0.mk (ho); clear HB; clear HO_3; have HB := n0_; have HO306 := n1_; clear n0_ n1_; clear ho hb hg hat)))
                    go_roundg k1
                    case measure => have := HK1.out; omega
                    case rel => exact ⟨(y304), (wrap64 (x4_1 + 1)), (by first | rfl | (simp; done) | (simp [*]; done)), H', ⟨by have := HK1.out; omega⟩, ⟨by (with_reducible repeat (first | apply Kd.R_alloc | apply Kd.R_drewN | apply Kd.R_drew)); exact HO306.out⟩, ⟨by repeat with_reducible first | exact HB.out | apply below_alloc | apply pw_below_drewN | apply below_drew1⟩⟩
                  · rw [if_neg c23] at H
                    exact absurd H (by simp)
              · rw [if_neg c11] at H
                exact absurd H (by simp)
            · rw [if_neg c10] at H
              exact absurd H (by simp)
          · rw [if_neg c8] at H
            have c8b0 : decide (0 < x4_1) = false := decide_eq_false c8
            clear c8
            by_cases c25 : x3_1.length < 5864062014805
            · rw [if_pos c25] at H
              have LMc25 := Aside0.mk c25
              clear c25
              obtain ⟨y308, hy308⟩ : ∃ y_ : List (S39), y_ = (x3_1 ++ [(⟨x4_1, 1, rd l0 x4_1⟩ : S39)]) := ⟨_, rfl⟩
              replace H : (ferruleref9_Runs.l0 k1 l0 y308 (wrap64 (x4_1 + 1))) = some r := by first | (rw [hy308]; with_reducible exact H) | (have H2_ := (Option.bind_some _ _).symm.trans H; rw [hy308]; with_reducible exact H2_) | (have H2_ := (Option.bind_some _ _).symm.trans H; with_reducible exact H2_) | with_reducible exact H | (rw [hy308]; exact H) | exact H
              have Ny308 := Aside0.mk hy308
              clear hy308
              have H' := Aside0.mk H
              clear H
              have p293 : 0 ≤ (x4_1 : Int) := of_decide_eq_true (by with_reducible assumption)
              have q293 : x4_1 < (l0.length : Int) := of_decide_eq_true (by with_reducible assumption)
              obtain ⟨ad293, e293, hx293_0⟩ := Kd.at_int HR0.out x4_1 p293 q293
              cases e293
              replace hx293_0 := (HB.out.cell (World.block_lt_of_cell? w _ hx293_0)).trans hx293_0
              replace p293 := eq_true p293
              replace q293 := eq_true q293
              have p307 : 0 ≤ (x4_1 : Int) := of_decide_eq_true (by with_reducible assumption)
              have q307 : x4_1 < (l0.length : Int) := of_decide_eq_true (by with_reducible assumption)
              obtain ⟨ad307, e307, hx307_0⟩ := Kd.at_int HR0.out x4_1 p307 q307
              obtain rfl : ad293 = ad307 := (by injection e307)
              replace hx307_0 := (HB.out.cell (World.block_lt_of_cell? w _ hx307_0)).trans hx307_0
              replace p307 := eq_true p307
              replace q307 := eq_true q307
              go_wp2_with (first | ((with_reducible refine gate_builtin (b := .append) (xs := #[.tmp 50, .tmp 57]) rfl ?_); at_builtin; refine Kd.R_append k39 (w0 := w) w.heap.size rfl (.tmp 50) (.tmp 57) 27 39 (.agg #[(.int .i64 0), (.int .i64 0), (.int .i64 0)]) 24 rfl Try.underlying27 info39 rfl (by decide) (by omega) u3 x3_1 (⟨x4_1, 1, rd l0 x4_1⟩ : S39) [.int .i64 x4_1, .int .i64 1, .int .i64 (rd l0 x4_1)] (fun _ => True) (fun _ => False) rfl rfl ?aP (fun _ hk => hk.elim) ?aF ?aO ?aB ?aS ?aL ?_; (case aP => exact k39_mkM _ _ _ (⟨x4_1, 1, rd l0 x4_1⟩ : S39)); (case aB => exact (by repeat with_reducible first | exact HB.out | apply below_alloc | apply pw_below_drewN | apply below_drew1)); (case aF => exact (fun _ _ => trivial)); (case aO => exact (by (with_reducible repeat (first | apply Kd.R_alloc | apply Kd.R_drewN | apply Kd.R_drew)); exact HO_3.out)); (case aS => exact (below_size (by repeat with_reducible first | exact HB.out | apply below_alloc | apply pw_below_drewN | apply below_drew1))); (case aL => have := LMc25.out; omega); intro v309 w26 ho hb hg hat; rw [← Ny308.out] at ho; have n0_ := Aside0.mk (hb); have n1_ := Aside0.mk (ho); clear HB; clear HO_3; have HB := n0_; have HO310 := n1_; clear n0_ n1_; clear ho hb hg hat))
              repeat (go_quiet (first | ((with_reducible refine gate_builtin (b := .append) (xs := #[.tmp 50, .tmp 57]) rfl ?_); at_builtin; refine Kd.R_append k39 (w0 := w) w.heap.size rfl (.tmp 50) (.tmp 57) 27 39 (.agg #[(.int .i64 0), (.int .i64 0), (.int .i64 0)]) 24 rfl Try.underlying27 info39 rfl (by decide) (by omega) u3 x3_1 (⟨x4_1, 1, rd l0 x4_1⟩ : S39) [.int .i64 x4_1, .int .i64 1, .int .i64 (rd l0 x4_1)] (fun _ => True) (fun _ => False) rfl rfl ?aP (fun _ hk => hk.elim) ?aF ?aO ?aB ?aS ?aL ?_; (case aP => exact k39_mkM _ _ _ (⟨x4_1, 1, rd l0 x4_1⟩ : S39)); (case aB => exact (by repeat with_reducible first | exact HB.out | apply below_alloc | apply pw_below_drewN | apply below_drew1)); (case aF => exact (fun _ _ => trivial)); (case aO => exact (by (with_reducible repeat (first | apply Kd.R_alloc | apply Kd.R_drewN | apply Kd.R_drew)); exact HO_3.out)); (case aS => exact (below_size (by repeat with_reducible first | exact HB.out | apply below_alloc | apply pw_below_drewN | apply below_drew1))); (case aL => have := LMc25.out; omega); intro v309 w26 ho hb hg hat; rw [← Ny308.out] at ho; have n0_ := Aside0.mk (hb); have n1_ := Aside0.mk (ho); clear HB; clear HO_3; have HB := n0_; have HO310 := n1_; clear n0_ n1_; clear ho hb hg hat)); try go_wp2_with (first | ((with_reducible refine gate_builtin (b := .append) (xs := #[.tmp 50, .tmp 57]) rfl ?_); at_builtin; refine Kd.R_append k39 (w0 := w) w.heap.size rfl (.tmp 50) (.tmp 57) 27 39 (.agg #[(.int .i64 0), (.int .i64 0), (.int .i64 0)]) 24 rfl Try.underlying27 info39 rfl (by decide) (by omega) u3 x3_1 (⟨x4_1, 1, rd l0 x4_1⟩ : S39) [.int .i64 x4_1, .int .i64 1, .int .i64 (rd l0 x4_1)] (fun _ => True) (fun _ => False) rfl rfl ?aP (fun _ hk => hk.elim) ?aF ?aO ?aB ?aS ?aL ?_; (case aP => exact k39_mkM _ _ _ (⟨x4_1, 1, rd l0 x4_1⟩ : S39)); (case aB => exact (by repeat with_reducible first | exact HB.out | apply below_alloc | apply pw_below_drewN | apply below_drew1)); (case aF => exact (fun _ _ => trivial)); (case aO => exact (by (with_reducible repeat (first | apply Kd.R_alloc | apply Kd.R_drewN | apply Kd.R_drew)); exact HO_3.out)); (case aS => exact (below_size (by repeat with_reducible first | exact HB.out | apply below_alloc | apply pw_below_drewN | apply below_drew1))); (case aL => have := LMc25.out; omega); intro v309 w26 ho hb hg hat; rw [← Ny308.out] at ho; have n0_ := Aside0.mk (hb); have n1_ := Aside0.mk (ho); clear HB; clear HO_3; have HB := n0_; have HO310 := n1_; clear n0_ n1_; clear ho hb hg hat)))
              go_roundg k1
              case measure => have := HK1.out; omega
              case rel => exact ⟨(y308), (wrap64 (x4_1 + 1)), (by first | rfl | (simp; done) | (simp [*]; done)), H', ⟨by have := HK1.out; omega⟩, ⟨by (with_reducible repeat (first | apply Kd.R_alloc | apply Kd.R_drewN | apply Kd.R_drew)); exact HO310.out⟩, ⟨by repeat with_reducible first | exact HB.out | apply below_alloc | apply pw_below_drewN | apply below_drew1⟩⟩
            · rw [if_neg c25] at H
              exact absurd H (by simp)
      · rw [if_neg c6] at H
        exact absurd H (by simp)
    · rw [if_neg c5] at H
      have c5b0 : decide (x4_1 < (l0.length : Int)) = false := decide_eq_false c5
      clear c5
      obtain rfl := Option.some.inj H
      go_wp2
      repeat (go_quiet (fail); try go_wp2)
      go_ret
      exact ⟨_, by first | rfl | (simp [errW_none, errW_some] <;> rfl) | (simp [*, errW_none, errW_some] <;> rfl), by (with_reducible repeat (first | apply Kd.R_alloc | apply Kd.R_drewN | apply Kd.R_drew)); exact HO_3.out, by repeat with_reducible first | exact HB.out | apply below_alloc | apply pw_below_drewN | apply below_drew1⟩
 }
 {
 rw [if_neg c2] at H
 exact absurd H (by simp)
 }

/-! ### ferruleref9_Fold: function 13 -/
mutual
def ferruleref9_Fold.l0 : Nat → List (S38) → List Int → Int → Option ((List (S39)))
  | 0, _, _, _ => none
  | k + 1, x0, x3, x4 => if x4 < (x0.length : Int) then (if 0 ≤ x4 then (if ((rd_T38 x0 x4).f2) < 0 then (ferruleref9_Fold.j1 k x0 x3 x4 true ((rd_T38 x0 x4).f0) ((rd_T38 x0 x4).f1) ((rd_T38 x0 x4).f2)) else (if ((rd_T38 x0 x4).f2) > 1048576 then (ferruleref9_Fold.j1 k x0 x3 x4 true ((rd_T38 x0 x4).f0) ((rd_T38 x0 x4).f1) ((rd_T38 x0 x4).f2)) else (if ((rd_T38 x0 x4).f1) < 1 then (ferruleref9_Fold.j1 k x0 x3 x4 true ((rd_T38 x0 x4).f0) ((rd_T38 x0 x4).f1) ((rd_T38 x0 x4).f2)) else (if ((rd_T38 x0 x4).f0) < 0 then (ferruleref9_Fold.j1 k x0 x3 x4 true ((rd_T38 x0 x4).f0) ((rd_T38 x0 x4).f1) ((rd_T38 x0 x4).f2)) else (ferruleref9_Fold.j1 k x0 x3 x4 (decide (((rd_T38 x0 x4).f0) > 512)) ((rd_T38 x0 x4).f0) ((rd_T38 x0 x4).f1) ((rd_T38 x0 x4).f2)))))) else (none)) else ((ferruleref9_Runs.f k x3).bind fun t314 => (some t314))
def ferruleref9_Fold.j1 : Nat → List (S38) → List Int → Int → Bool → Int → Int → Int → Option ((List (S39)))
  | 0, _, _, _, _, _, _, _ => none
  | k + 1, x0, x3, x4, x40, x319000, x319001, x319002 => if x40 = true then (ferruleref9_Fold.l0 k x0 x3 (wrap64 (x4 + 1))) else (ferruleref9_Fold.l1 k x0 x3 x4 0 x319000 x319001 x319002)
def ferruleref9_Fold.l1 : Nat → List (S38) → List Int → Int → Int → Int → Int → Int → Option ((List (S39)))
  | 0, _, _, _, _, _, _, _ => none
  | k + 1, x0, x3, x4, x6, x319000, x319001, x319002 => if x6 < x319001 then (if (wrap64 (x319000 + x6)) < 512 then (if 0 ≤ (wrap64 (x319000 + x6)) then (if (wrap64 (x319000 + x6)) < (x3.length : Int) then (ferruleref9_Fold.l1 k x0 (x3.set ((wrap64 (x319000 + x6)) : Int).toNat (wrap64 (x319002 + x6))) x4 (wrap64 (x6 + 1)) x319000 x319001 x319002) else (none)) else (none)) else (ferruleref9_Fold.l0 k x0 x3 (wrap64 (x4 + 1)))) else (ferruleref9_Fold.l0 k x0 x3 (wrap64 (x4 + 1)))
end
def ferruleref9_Fold.f (k : Nat) (l0 : List (S38)) : Option ((List (S39))) := (ferruleref9_New.f k 512).bind fun t311 => (ferruleref9_Fold.l0 k l0 t311 0)
theorem ferruleref9_Fold.mono_l : ∀ k, (∀ y0 y1 y2, LeO (ferruleref9_Fold.l0 k y0 y1 y2) (ferruleref9_Fold.l0 (k + 1) y0 y1 y2)) ∧ (∀ y0 y1 y2 y3 y4 y5 y6, LeO (ferruleref9_Fold.j1 k y0 y1 y2 y3 y4 y5 y6) (ferruleref9_Fold.j1 (k + 1) y0 y1 y2 y3 y4 y5 y6)) ∧ (∀ y0 y1 y2 y3 y4 y5 y6, LeO (ferruleref9_Fold.l1 k y0 y1 y2 y3 y4 y5 y6) (ferruleref9_Fold.l1 (k + 1) y0 y1 y2 y3 y4 y5 y6))
  | 0 => ⟨fun _ _ _ r h => by simp [ferruleref9_Fold.l0] at h, fun _ _ _ _ _ _ _ r h => by simp [ferruleref9_Fold.j1] at h, fun _ _ _ _ _ _ _ r h => by simp [ferruleref9_Fold.l1] at h⟩
  | k + 1 => by
    obtain ⟨ih0, ih1, ih2⟩ := ferruleref9_Fold.mono_l k
    refine ⟨?_, ?_, ?_⟩
    · intro y0 y1 y2
      unfold ferruleref9_Fold.l0
      repeat' first
      | (with_reducible exact ih0 _ _ _)
      | (with_reducible exact ih1 _ _ _ _ _ _ _)
      | (with_reducible exact ih2 _ _ _ _ _ _ _)
      | (with_reducible exact ferruleref9_New.mono _ _)
      | (with_reducible exact ferruleref9_Runs.mono _ _)
      | (with_reducible exact LeO.refl _)
      | (with_reducible exact LeO.none _)
      | (with_reducible refine LeO.ite ?_ ?_)
      | (with_reducible refine LeO.bind ?_ (fun _ => ?_))
      | exact ih0 _ _ _
      | exact ih1 _ _ _ _ _ _ _
      | exact ih2 _ _ _ _ _ _ _
      | exact ferruleref9_New.mono _ _
      | exact ferruleref9_Runs.mono _ _
      | exact LeO.none _
      | refine LeO.ite ?_ ?_
      | refine LeO.bind ?_ (fun _ => ?_)
    · intro y0 y1 y2 y3 y4 y5 y6
      unfold ferruleref9_Fold.j1
      repeat' first
      | (with_reducible exact ih0 _ _ _)
      | (with_reducible exact ih1 _ _ _ _ _ _ _)
      | (with_reducible exact ih2 _ _ _ _ _ _ _)
      | (with_reducible exact ferruleref9_New.mono _ _)
      | (with_reducible exact ferruleref9_Runs.mono _ _)
      | (with_reducible exact LeO.refl _)
      | (with_reducible exact LeO.none _)
      | (with_reducible refine LeO.ite ?_ ?_)
      | (with_reducible refine LeO.bind ?_ (fun _ => ?_))
      | exact ih0 _ _ _
      | exact ih1 _ _ _ _ _ _ _
      | exact ih2 _ _ _ _ _ _ _
      | exact ferruleref9_New.mono _ _
      | exact ferruleref9_Runs.mono _ _
      | exact LeO.none _
      | refine LeO.ite ?_ ?_
      | refine LeO.bind ?_ (fun _ => ?_)
    · intro y0 y1 y2 y3 y4 y5 y6
      unfold ferruleref9_Fold.l1
      repeat' first
      | (with_reducible exact ih0 _ _ _)
      | (with_reducible exact ih1 _ _ _ _ _ _ _)
      | (with_reducible exact ih2 _ _ _ _ _ _ _)
      | (with_reducible exact ferruleref9_New.mono _ _)
      | (with_reducible exact ferruleref9_Runs.mono _ _)
      | (with_reducible exact LeO.refl _)
      | (with_reducible exact LeO.none _)
      | (with_reducible refine LeO.ite ?_ ?_)
      | (with_reducible refine LeO.bind ?_ (fun _ => ?_))
      | exact ih0 _ _ _
      | exact ih1 _ _ _ _ _ _ _
      | exact ih2 _ _ _ _ _ _ _
      | exact ferruleref9_New.mono _ _
      | exact ferruleref9_Runs.mono _ _
      | exact LeO.none _
      | refine LeO.ite ?_ ?_
      | refine LeO.bind ?_ (fun _ => ?_)
theorem ferruleref9_Fold.mono : ∀ a0 k, LeO (ferruleref9_Fold.f k a0) (ferruleref9_Fold.f (k + 1) a0) := by
  intro a0 k
  obtain ⟨ih0, ih1, ih2⟩ := ferruleref9_Fold.mono_l k
  unfold ferruleref9_Fold.f
  repeat' first
      | (with_reducible exact ih0 _ _ _)
      | (with_reducible exact ih1 _ _ _ _ _ _ _)
      | (with_reducible exact ih2 _ _ _ _ _ _ _)
      | (with_reducible exact ferruleref9_New.mono _ _)
      | (with_reducible exact ferruleref9_Runs.mono _ _)
      | (with_reducible exact LeO.refl _)
      | (with_reducible exact LeO.none _)
      | (with_reducible refine LeO.ite ?_ ?_)
      | (with_reducible refine LeO.bind ?_ (fun _ => ?_))
      | exact ih0 _ _ _
      | exact ih1 _ _ _ _ _ _ _
      | exact ih2 _ _ _ _ _ _ _
      | exact ferruleref9_New.mono _ _
      | exact ferruleref9_Runs.mono _ _
      | exact LeO.none _
      | refine LeO.ite ?_ ?_
      | refine LeO.bind ?_ (fun _ => ?_)
set_option maxHeartbeats 8000000 in
set_option maxRecDepth 100000 in
theorem ferruleref9_Fold.calls (k : Nat) (A0 : Option Addr) (c0 : Nat) (l0 : List (S38)) (r : List (S39)) (w : World) (hr0 : Kd.C k38 w A0 l0.length l0) (hc0 : l0.length ≤ c0) (h : ferruleref9_Fold.f k l0 = some r) :
    Calls Try.prog 13 #[.slice A0 l0.length c0] w fun e w' => ∃ v0_ : Value, e = .returned (v0_) ∧ Kd.R k39 39 w' w.heap.size (fun _ => True) v0_ r ∧ Below w.heap.size w w' := by
 have hu38 := Try.underlying38
 have HR0 := Aside0.mk hr0
 have HC0 := Aside0.mk hc0
 clear hr0 hc0
 have HB := Aside0.mk (Below.refl w.heap.size w)
 have H : ((ferruleref9_New.f k 512).bind fun t311 => (ferruleref9_Fold.l0 k l0 t311 0)) = some r := h
 clear h
 replace H := Option.bind_eq_some_iff.mp H
 obtain ⟨t311, A20, H⟩ := H
 replace H : (ferruleref9_Fold.l0 k l0 t311 0) = some r := H
 have A2 := Aside0.mk A20
 clear A20
 have H' := Aside0.mk H
 clear H
 go_enter Try.func13, Try.ntmps13
 go_wp2_with (first | ((with_reducible refine gate_callee (f := 26) rfl ?_); refine goesL_ (some 7) rfl rfl Try.func26 (by kernel_rfl) rfl #[.int .i64 512] rfl (by (try simp only [List.map_toArray, List.map_cons, List.map_nil]); first | done | rfl | (simp only [List.length_drop, List.length_take]; rfl)) ?_; (with_reducible refine (ferruleref9_New.calls k 512 t311 _ A2.out).mono ?_); rintro e w3 ⟨v312, rfl, ho0, hb⟩; refine ⟨_, rfl, ?_⟩; have n0_ := Aside0.mk (Kd.R_lower ho0 (below_size (by repeat with_reducible first | exact HB.out | apply below_alloc | apply pw_below_drewN | apply below_drew1))); have n1_ := Aside0.mk (below_step (by repeat with_reducible first | exact HB.out | apply below_alloc | apply pw_below_drewN | apply below_drew1) hb); clear HB; have HO313 := n0_; have HB := n1_; clear n0_ n1_; (try clear hb); (try clear hb2); (try clear hk); (try clear hi); (try clear ho0)))
 go_loopg [4] k (fun kq v4 w' => ∃ (x3_1 : List Int) (x4_1 : Int), v4 = .int .i64 x4_1 ∧ Aside0 (ferruleref9_Fold.l0 kq l0 x3_1 x4_1 = some r) ∧ Aside0 (kq ≤ k) ∧ Aside0 (Kd.R (Kd.int .i64) 3 w' w.heap.size (fun _ => True) v312 x3_1) ∧ Aside0 (Below w.heap.size w w'))
 case atStart => exact ⟨(t311), (0), (by first | rfl | (simp; done) | (simp [*]; done)), H', ⟨Nat.le_refl _⟩, ⟨by (with_reducible repeat (first | apply Kd.R_alloc | apply Kd.R_drewN | apply Kd.R_drew)); exact HO313.out⟩, ⟨by repeat with_reducible first | exact HB.out | apply below_alloc | apply pw_below_drewN | apply below_drew1⟩⟩
 case round =>
  clear H'
  try clear c1
  try clear c2
  try clear p2
  obtain ⟨x3_1, x4_1, rfl, HA, HK1, HO_3, HB⟩ := hrel
  cases gk with
  | zero => exact absurd HA.out (by simp [ferruleref9_Fold.l0])
  | succ k1 =>
    have H := HA.out
    clear HA
    simp only [ferruleref9_Fold.l0] at H
    by_cases c4 : x4_1 < (l0.length : Int)
    · rw [if_pos c4] at H
      have c4b0 : decide (x4_1 < (l0.length : Int)) = true := decide_eq_true c4
      clear c4
      by_cases c5 : 0 ≤ x4_1
      · rw [if_pos c5] at H
        have c5b0 : decide (0 ≤ x4_1) = true := decide_eq_true c5
        clear c5
        have HC6 := Aside0.mk H
        clear H
        have p317 : 0 ≤ (x4_1 : Int) := of_decide_eq_true (by with_reducible assumption)
        have q317 : x4_1 < (l0.length : Int) := of_decide_eq_true (by with_reducible assumption)
        obtain ⟨ad317, e317, hx317_0, hx317_1, hx317_2⟩ := at_T38 HR0.out x4_1 p317 q317
        cases e317
        replace hx317_0 := (HB.out.cell (World.block_lt_of_cell? w _ hx317_0)).trans hx317_0
        replace hx317_1 := (HB.out.cell (World.block_lt_of_cell? w _ hx317_1)).trans hx317_1
        replace hx317_2 := (HB.out.cell (World.block_lt_of_cell? w _ hx317_2)).trans hx317_2
        replace p317 := eq_true p317
        replace q317 := eq_true q317
        go_upto_region 6 with (first | ((with_reducible refine gate_dst (N := 5) rfl ?_); refine box_event ?hg (N := 5) ?hd (cs := #[.int .i64 0, .int .i64 0, .int .i64 0]) (t := 38) ?hr ?_; (case hd => rfl); (case hg => rfl); (case hr => first | (go_simp; done) | (go_simp; rfl)); intro gb318 hg w7 hbox hb; have n0_ := Aside0.mk (Kd.R_below (by (with_reducible repeat (first | apply Kd.R_alloc | apply Kd.R_drewN | apply Kd.R_drew)); exact HO_3.out) hb); have n1_ := Aside0.mk (below_step (by repeat with_reducible first | exact HB.out | apply below_alloc | apply pw_below_drewN | apply below_drew1) hb); have n2_ := Aside0.mk (hbox); have n3_ := Aside0.mk ((by rw [hg]; exact (below_size (by repeat with_reducible first | exact HB.out | apply below_alloc | apply pw_below_drewN | apply below_drew1)) : w.heap.size ≤ gb318)); have n4_ := Aside0.mk ((by rw [hg]; exact (below_size (by repeat with_reducible first | exact HB.out | apply below_alloc | apply pw_below_drewN | apply below_drew1)) : w.heap.size ≤ gb318)); clear HO_3; clear HB; have HO_3 := n0_; have HB := n1_; have BK318 := n2_; have GW318 := n3_; have GE318 := n4_; clear n0_ n1_ n2_ n3_ n4_; clear hb hbox hg; have hcz8_0 : w7.cell? ⟨gb318, 0, none⟩ = some (.int .i64 0) := (blk_cell BK318.out 0).trans rfl; have hcz8_1 : w7.cell? ⟨gb318, 1, none⟩ = some (.int .i64 0) := (blk_cell BK318.out 1).trans rfl; have hcz8_2 : w7.cell? ⟨gb318, 2, none⟩ = some (.int .i64 0) := (blk_cell BK318.out 2).trans rfl; have hfz8_0 := blk_frozen BK318.out 0; have hfz8_1 := blk_frozen BK318.out 1; have hfz8_2 := blk_frozen BK318.out 2))
        (try simp only [Act.put, List.setIfInBounds_toArray, List.set_cons_zero, List.set_cons_succ])
        go_cut [40] (fun v40 wc => ∃ (kq : Nat) (x40_5 : Bool), v40 = .bool x40_5 ∧ Aside0 (ferruleref9_Fold.j1 kq l0 x3_1 x4_1 x40_5 ((rd_T38 l0 x4_1).f0) ((rd_T38 l0 x4_1).f1) ((rd_T38 l0 x4_1).f2) = some r) ∧ Aside0 (kq ≤ k1) ∧ Aside0 (Kd.R (Kd.int .i64) 3 wc w.heap.size (fun _ => True) v312 x3_1) ∧ Aside0 (wc.heap[gb318]? = some (.cells #[.int .i64 ((rd_T38 l0 x4_1).f0), .int .i64 ((rd_T38 l0 x4_1).f1), .int .i64 ((rd_T38 l0 x4_1).f2)] 38 (0, 0))) ∧ Aside0 (Below w.heap.size w wc))
        case first =>
          have H := HC6.out
          clear HC6
          by_cases c9 : ((rd_T38 l0 x4_1).f2) < 0
          · rw [if_pos c9] at H
            have c9b0 : decide (((rd_T38 l0 x4_1).f2) < 0) = true := decide_eq_true c9
            clear c9
            (first | rw [c9b0] | (simp only [i64_w, i32_w]; rw [c9b0]) | skip)
            have H' := Aside0.mk H
            clear H
            have hcz10_0 : w7.cell? ⟨gb318, 0, none⟩ = some (.int .i64 0) := (blk_cell BK318.out 0).trans rfl
            have hcz10_1 : w7.cell? ⟨gb318, 1, none⟩ = some (.int .i64 0) := (blk_cell BK318.out 1).trans rfl
            have hcz10_2 : w7.cell? ⟨gb318, 2, none⟩ = some (.int .i64 0) := (blk_cell BK318.out 2).trans rfl
            have hfz10_0 := blk_frozen BK318.out 0
            have hfz10_1 := blk_frozen BK318.out 1
            have hfz10_2 := blk_frozen BK318.out 2
            go_wp2
            go_meet
            case rel => exact ⟨_, (true), (by first | rfl | (simp; done) | (simp [*]; done)), H', ⟨by have := HK1.out; first | omega | exact Nat.le_refl _⟩, ⟨by (with_reducible repeat (first | apply Kd.R_alloc | apply Kd.R_drewN | apply Kd.R_drew)); exact Kd.R_mono (Kd.R_far (p := ⟨gb318, 2, none⟩) (Kd.R_far (p := ⟨gb318, 1, none⟩) (Kd.R_far (p := ⟨gb318, 0, none⟩) (Kd.R_types HO_3.out BK318.out (by decide)) (fun _ hk => hk.2) (.int .i64 ((rd_T38 l0 x4_1).f0))) (fun _ hk => hk.2) (.int .i64 ((rd_T38 l0 x4_1).f1))) (fun _ hk => hk.2) (.int .i64 ((rd_T38 l0 x4_1).f2))) (fun _ hk => trivial)⟩, ⟨by (with_reducible repeat (first | refine blk_drewN ?_ _ | refine blk_drew ?_ | refine blk_alloc ?_ _)); refine blk_put (cs := #[.int .i64 ((rd_T38 l0 x4_1).f0), .int .i64 ((rd_T38 l0 x4_1).f1), .int .i64 0]) ?_ 2 _ rfl; (with_reducible repeat (first | refine blk_drewN ?_ _ | refine blk_drew ?_ | refine blk_alloc ?_ _)); refine blk_put (cs := #[.int .i64 ((rd_T38 l0 x4_1).f0), .int .i64 0, .int .i64 0]) ?_ 1 _ rfl; (with_reducible repeat (first | refine blk_drewN ?_ _ | refine blk_drew ?_ | refine blk_alloc ?_ _)); refine blk_put (cs := #[.int .i64 0, .int .i64 0, .int .i64 0]) ?_ 0 _ rfl; (with_reducible repeat (first | refine blk_drewN ?_ _ | refine blk_drew ?_ | refine blk_alloc ?_ _)); exact BK318.out⟩, ⟨by repeat (first | (with_reducible first | exact HB.out | apply below_alloc | apply pw_below_drewN | apply below_drew1 | refine below_set ?_ GE318.out) | exact HB.out)⟩⟩
          · rw [if_neg c9] at H
            have c9b0 : decide (((rd_T38 l0 x4_1).f2) < 0) = false := decide_eq_false c9
            clear c9
            (first | rw [c9b0] | (simp only [i64_w, i32_w]; rw [c9b0]) | skip)
            by_cases c11 : ((rd_T38 l0 x4_1).f2) > 1048576
            · rw [if_pos c11] at H
              have c11b0 : decide (1048576 < ((rd_T38 l0 x4_1).f2)) = true := decide_eq_true c11
              clear c11
              have H' := Aside0.mk H
              clear H
              have hcz12_0 : w7.cell? ⟨gb318, 0, none⟩ = some (.int .i64 0) := (blk_cell BK318.out 0).trans rfl
              have hcz12_1 : w7.cell? ⟨gb318, 1, none⟩ = some (.int .i64 0) := (blk_cell BK318.out 1).trans rfl
              have hcz12_2 : w7.cell? ⟨gb318, 2, none⟩ = some (.int .i64 0) := (blk_cell BK318.out 2).trans rfl
              have hfz12_0 := blk_frozen BK318.out 0
              have hfz12_1 := blk_frozen BK318.out 1
              have hfz12_2 := blk_frozen BK318.out 2
              go_wp2
              go_meet
              case rel => exact ⟨_, (true), (by first | rfl | (simp; done) | (simp [*]; done)), H', ⟨by have := HK1.out; first | omega | exact Nat.le_refl _⟩, ⟨by (with_reducible repeat (first | apply Kd.R_alloc | apply Kd.R_drewN | apply Kd.R_drew)); exact Kd.R_mono (Kd.R_far (p := ⟨gb318, 2, none⟩) (Kd.R_far (p := ⟨gb318, 1, none⟩) (Kd.R_far (p := ⟨gb318, 0, none⟩) (Kd.R_types HO_3.out BK318.out (by decide)) (fun _ hk => hk.2) (.int .i64 ((rd_T38 l0 x4_1).f0))) (fun _ hk => hk.2) (.int .i64 ((rd_T38 l0 x4_1).f1))) (fun _ hk => hk.2) (.int .i64 ((rd_T38 l0 x4_1).f2))) (fun _ hk => trivial)⟩, ⟨by (with_reducible repeat (first | refine blk_drewN ?_ _ | refine blk_drew ?_ | refine blk_alloc ?_ _)); refine blk_put (cs := #[.int .i64 ((rd_T38 l0 x4_1).f0), .int .i64 ((rd_T38 l0 x4_1).f1), .int .i64 0]) ?_ 2 _ rfl; (with_reducible repeat (first | refine blk_drewN ?_ _ | refine blk_drew ?_ | refine blk_alloc ?_ _)); refine blk_put (cs := #[.int .i64 ((rd_T38 l0 x4_1).f0), .int .i64 0, .int .i64 0]) ?_ 1 _ rfl; (with_reducible repeat (first | refine blk_drewN ?_ _ | refine blk_drew ?_ | refine blk_alloc ?_ _)); refine blk_put (cs := #[.int .i64 0, .int .i64 0, .int .i64 0]) ?_ 0 _ rfl; (with_reducible repeat (first | refine blk_drewN ?_ _ | refine blk_drew ?_ | refine blk_alloc ?_ _)); exact BK318.out⟩, ⟨by repeat (first | (with_reducible first | exact HB.out | apply below_alloc | apply pw_below_drewN | apply below_drew1 | refine below_set ?_ GE318.out) | exact HB.out)⟩⟩
            · rw [if_neg c11] at H
              have c11b0 : decide (1048576 < ((rd_T38 l0 x4_1).f2)) = false := decide_eq_false c11
              clear c11
              by_cases c13 : ((rd_T38 l0 x4_1).f1) < 1
              · rw [if_pos c13] at H
                have c13b0 : decide (((rd_T38 l0 x4_1).f1) < 1) = true := decide_eq_true c13
                clear c13
                have H' := Aside0.mk H
                clear H
                have hcz14_0 : w7.cell? ⟨gb318, 0, none⟩ = some (.int .i64 0) := (blk_cell BK318.out 0).trans rfl
                have hcz14_1 : w7.cell? ⟨gb318, 1, none⟩ = some (.int .i64 0) := (blk_cell BK318.out 1).trans rfl
                have hcz14_2 : w7.cell? ⟨gb318, 2, none⟩ = some (.int .i64 0) := (blk_cell BK318.out 2).trans rfl
                have hfz14_0 := blk_frozen BK318.out 0
                have hfz14_1 := blk_frozen BK318.out 1
                have hfz14_2 := blk_frozen BK318.out 2
                go_wp2
                go_meet
                case rel => exact ⟨_, (true), (by first | rfl | (simp; done) | (simp [*]; done)), H', ⟨by have := HK1.out; first | omega | exact Nat.le_refl _⟩, ⟨by (with_reducible repeat (first | apply Kd.R_alloc | apply Kd.R_drewN | apply Kd.R_drew)); exact Kd.R_mono (Kd.R_far (p := ⟨gb318, 2, none⟩) (Kd.R_far (p := ⟨gb318, 1, none⟩) (Kd.R_far (p := ⟨gb318, 0, none⟩) (Kd.R_types HO_3.out BK318.out (by decide)) (fun _ hk => hk.2) (.int .i64 ((rd_T38 l0 x4_1).f0))) (fun _ hk => hk.2) (.int .i64 ((rd_T38 l0 x4_1).f1))) (fun _ hk => hk.2) (.int .i64 ((rd_T38 l0 x4_1).f2))) (fun _ hk => trivial)⟩, ⟨by (with_reducible repeat (first | refine blk_drewN ?_ _ | refine blk_drew ?_ | refine blk_alloc ?_ _)); refine blk_put (cs := #[.int .i64 ((rd_T38 l0 x4_1).f0), .int .i64 ((rd_T38 l0 x4_1).f1), .int .i64 0]) ?_ 2 _ rfl; (with_reducible repeat (first | refine blk_drewN ?_ _ | refine blk_drew ?_ | refine blk_alloc ?_ _)); refine blk_put (cs := #[.int .i64 ((rd_T38 l0 x4_1).f0), .int .i64 0, .int .i64 0]) ?_ 1 _ rfl; (with_reducible repeat (first | refine blk_drewN ?_ _ | refine blk_drew ?_ | refine blk_alloc ?_ _)); refine blk_put (cs := #[.int .i64 0, .int .i64 0, .int .i64 0]) ?_ 0 _ rfl; (with_reducible repeat (first | refine blk_drewN ?_ _ | refine blk_drew ?_ | refine blk_alloc ?_ _)); exact BK318.out⟩, ⟨by repeat (first | (with_reducible first | exact HB.out | apply below_alloc | apply pw_below_drewN | apply below_drew1 | refine below_set ?_ GE318.out) | exact HB.out)⟩⟩
              · rw [if_neg c13] at H
                have c13b0 : decide (((rd_T38 l0 x4_1).f1) < 1) = false := decide_eq_false c13
                clear c13
                by_cases c15 : ((rd_T38 l0 x4_1).f0) < 0
                · rw [if_pos c15] at H
                  have c15b0 : decide (((rd_T38 l0 x4_1).f0) < 0) = true := decide_eq_true c15
                  clear c15
                  have H' := Aside0.mk H
                  clear H
                  have hcz16_0 : w7.cell? ⟨gb318, 0, none⟩ = some (.int .i64 0) := (blk_cell BK318.out 0).trans rfl
                  have hcz16_1 : w7.cell? ⟨gb318, 1, none⟩ = some (.int .i64 0) := (blk_cell BK318.out 1).trans rfl
                  have hcz16_2 : w7.cell? ⟨gb318, 2, none⟩ = some (.int .i64 0) := (blk_cell BK318.out 2).trans rfl
                  have hfz16_0 := blk_frozen BK318.out 0
                  have hfz16_1 := blk_frozen BK318.out 1
                  have hfz16_2 := blk_frozen BK318.out 2
                  go_wp2
                  go_meet
                  case rel => exact ⟨_, (true), (by first | rfl | (simp; done) | (simp [*]; done)), H', ⟨by have := HK1.out; first | omega | exact Nat.le_refl _⟩, ⟨by (with_reducible repeat (first | apply Kd.R_alloc | apply Kd.R_drewN | apply Kd.R_drew)); exact Kd.R_mono (Kd.R_far (p := ⟨gb318, 2, none⟩) (Kd.R_far (p := ⟨gb318, 1, none⟩) (Kd.R_far (p := ⟨gb318, 0, none⟩) (Kd.R_types HO_3.out BK318.out (by decide)) (fun _ hk => hk.2) (.int .i64 ((rd_T38 l0 x4_1).f0))) (fun _ hk => hk.2) (.int .i64 ((rd_T38 l0 x4_1).f1))) (fun _ hk => hk.2) (.int .i64 ((rd_T38 l0 x4_1).f2))) (fun _ hk => trivial)⟩, ⟨by (with_reducible repeat (first | refine blk_drewN ?_ _ | refine blk_drew ?_ | refine blk_alloc ?_ _)); refine blk_put (cs := #[.int .i64 ((rd_T38 l0 x4_1).f0), .int .i64 ((rd_T38 l0 x4_1).f1), .int .i64 0]) ?_ 2 _ rfl; (with_reducible repeat (first | refine blk_drewN ?_ _ | refine blk_drew ?_ | refine blk_alloc ?_ _)); refine blk_put (cs := #[.int .i64 ((rd_T38 l0 x4_1).f0), .int .i64 0, .int .i64 0]) ?_ 1 _ rfl; (with_reducible repeat (first | refine blk_drewN ?_ _ | refine blk_drew ?_ | refine blk_alloc ?_ _)); refine blk_put (cs := #[.int .i64 0, .int .i64 0, .int .i64 0]) ?_ 0 _ rfl; (with_reducible repeat (first | refine blk_drewN ?_ _ | refine blk_drew ?_ | refine blk_alloc ?_ _)); exact BK318.out⟩, ⟨by repeat (first | (with_reducible first | exact HB.out | apply below_alloc | apply pw_below_drewN | apply below_drew1 | refine below_set ?_ GE318.out) | exact HB.out)⟩⟩
                · rw [if_neg c15] at H
                  have c15b0 : decide (((rd_T38 l0 x4_1).f0) < 0) = false := decide_eq_false c15
                  clear c15
                  have H' := Aside0.mk H
                  clear H
                  have hcz17_0 : w7.cell? ⟨gb318, 0, none⟩ = some (.int .i64 0) := (blk_cell BK318.out 0).trans rfl
                  have hcz17_1 : w7.cell? ⟨gb318, 1, none⟩ = some (.int .i64 0) := (blk_cell BK318.out 1).trans rfl
                  have hcz17_2 : w7.cell? ⟨gb318, 2, none⟩ = some (.int .i64 0) := (blk_cell BK318.out 2).trans rfl
                  have hfz17_0 := blk_frozen BK318.out 0
                  have hfz17_1 := blk_frozen BK318.out 1
                  have hfz17_2 := blk_frozen BK318.out 2
                  go_wp2
                  go_meet
                  case rel => exact ⟨_, (decide (((rd_T38 l0 x4_1).f0) > 512)), (by first | rfl | (simp; done) | (simp [*]; done)), H', ⟨by have := HK1.out; first | omega | exact Nat.le_refl _⟩, ⟨by (with_reducible repeat (first | apply Kd.R_alloc | apply Kd.R_drewN | apply Kd.R_drew)); exact Kd.R_mono (Kd.R_far (p := ⟨gb318, 2, none⟩) (Kd.R_far (p := ⟨gb318, 1, none⟩) (Kd.R_far (p := ⟨gb318, 0, none⟩) (Kd.R_types HO_3.out BK318.out (by decide)) (fun _ hk => hk.2) (.int .i64 ((rd_T38 l0 x4_1).f0))) (fun _ hk => hk.2) (.int .i64 ((rd_T38 l0 x4_1).f1))) (fun _ hk => hk.2) (.int .i64 ((rd_T38 l0 x4_1).f2))) (fun _ hk => trivial)⟩, ⟨by (with_reducible repeat (first | refine blk_drewN ?_ _ | refine blk_drew ?_ | refine blk_alloc ?_ _)); refine blk_put (cs := #[.int .i64 ((rd_T38 l0 x4_1).f0), .int .i64 ((rd_T38 l0 x4_1).f1), .int .i64 0]) ?_ 2 _ rfl; (with_reducible repeat (first | refine blk_drewN ?_ _ | refine blk_drew ?_ | refine blk_alloc ?_ _)); refine blk_put (cs := #[.int .i64 ((rd_T38 l0 x4_1).f0), .int .i64 0, .int .i64 0]) ?_ 1 _ rfl; (with_reducible repeat (first | refine blk_drewN ?_ _ | refine blk_drew ?_ | refine blk_alloc ?_ _)); refine blk_put (cs := #[.int .i64 0, .int .i64 0, .int .i64 0]) ?_ 0 _ rfl; (with_reducible repeat (first | refine blk_drewN ?_ _ | refine blk_drew ?_ | refine blk_alloc ?_ _)); exact BK318.out⟩, ⟨by repeat (first | (with_reducible first | exact HB.out | apply below_alloc | apply pw_below_drewN | apply below_drew1 | refine below_set ?_ GE318.out) | exact HB.out)⟩⟩
        case rest =>
          clear HC6
          try clear c1
          try clear c2
          try clear p2
          try clear p3
          try clear q3
          try clear hx3
          try clear c4
          try clear c4b0
          try clear c5
          try clear c5b0
          try clear c9
          try clear c9b0
          try clear c11
          try clear c11b0
          try clear c13
          try clear c13b0
          try clear c15
          try clear c15b0
          try clear hcz10_0
          try clear hcz10_1
          try clear hcz10_2
          try clear hcz12_0
          try clear hcz12_1
          try clear hcz12_2
          try clear hcz14_0
          try clear hcz14_1
          try clear hcz14_2
          try clear hcz16_0
          try clear hcz16_1
          try clear hcz16_2
          try clear hcz17_0
          try clear hcz17_1
          try clear hcz17_2
          try clear hcz8_0
          try clear hcz8_1
          try clear hcz8_2
          try clear hfz10_0
          try clear hfz10_1
          try clear hfz10_2
          try clear hfz12_0
          try clear hfz12_1
          try clear hfz12_2
          try clear hfz14_0
          try clear hfz14_1
          try clear hfz14_2
          try clear hfz16_0
          try clear hfz16_1
          try clear hfz16_2
          try clear hfz17_0
          try clear hfz17_1
          try clear hfz17_2
          try clear hfz8_0
          try clear hfz8_1
          try clear hfz8_2
          try clear hx317_0
          try clear hx317_1
          try clear hx317_2
          try clear p2
          try clear p317
          try clear q317
          obtain ⟨kq, x40_5, rfl, HA, HJ5, HO_3, BK318, HB⟩ := hcut
          cases kq with
          | zero => exact absurd HA.out (by simp [ferruleref9_Fold.j1])
          | succ kj5 =>
            have H := HA.out
            clear HA
            simp only [ferruleref9_Fold.j1] at H
            by_cases c18 : x40_5 = true
            · subst c18
              have H1 : (ferruleref9_Fold.l0 kj5 l0 x3_1 (wrap64 (x4_1 + 1))) = some r := by rw [if_pos rfl] at H; exact H
              clear H
              have H := H1
              clear H1
              have H' := Aside0.mk H
              clear H
              go_wp2
              go_roundg kj5
              case measure => have := HK1.out; have := HJ5.out; omega
              case rel => exact ⟨(x3_1), (wrap64 (x4_1 + 1)), (by first | rfl | (simp; done) | (simp [*]; done)), H', ⟨by have := HK1.out; have := HJ5.out; omega⟩, ⟨by (with_reducible repeat (first | apply Kd.R_alloc | apply Kd.R_drewN | apply Kd.R_drew)); exact HO_3.out⟩, ⟨by repeat (first | (with_reducible first | exact HB.out | apply below_alloc | apply pw_below_drewN | apply below_drew1 | refine below_set ?_ GE318.out) | exact HB.out)⟩⟩
            · replace c18 := Bool.eq_false_iff.mpr c18
              subst c18
              have H1 : (ferruleref9_Fold.l1 kj5 l0 x3_1 x4_1 0 ((rd_T38 l0 x4_1).f0) ((rd_T38 l0 x4_1).f1) ((rd_T38 l0 x4_1).f2)) = some r := by rw [if_neg (show ¬ (false = true) by decide)] at H; exact H
              clear H
              have H := H1
              clear H1
              have H' := Aside0.mk H
              clear H
              go_wp2
              go_loopg [6] kj5 (fun kq v6 w' => ∃ (x3_3 : List Int) (x6_3 : Int), v6 = .int .i64 x6_3 ∧ Aside0 (ferruleref9_Fold.l1 kq l0 x3_3 x4_1 x6_3 ((rd_T38 l0 x4_1).f0) ((rd_T38 l0 x4_1).f1) ((rd_T38 l0 x4_1).f2) = some r) ∧ Aside0 (kq ≤ kj5) ∧ Aside0 (Kd.R (Kd.int .i64) 3 w' w.heap.size (fun _ => True) v312 x3_3) ∧ Aside0 (w'.heap[gb318]? = some (.cells #[.int .i64 ((rd_T38 l0 x4_1).f0), .int .i64 ((rd_T38 l0 x4_1).f1), .int .i64 ((rd_T38 l0 x4_1).f2)] 38 (0, 0))) ∧ Aside0 (Below w.heap.size w w'))
              case atStart => exact ⟨(x3_1), (0), (by first | rfl | (simp; done) | (simp [*]; done)), H', ⟨Nat.le_refl _⟩, ⟨by (with_reducible repeat (first | apply Kd.R_alloc | apply Kd.R_drewN | apply Kd.R_drew)); exact HO_3.out⟩, ⟨by (with_reducible repeat (first | refine blk_drewN ?_ _ | refine blk_drew ?_ | refine blk_alloc ?_ _)); exact BK318.out⟩, ⟨by repeat (first | (with_reducible first | exact HB.out | apply below_alloc | apply pw_below_drewN | apply below_drew1 | refine below_set ?_ GE318.out) | exact HB.out)⟩⟩
              case round =>
                clear H'
                try clear c1
                try clear c2
                try clear p2
                try clear p3
                try clear q3
                try clear hx3
                try clear c4
                try clear c4b0
                try clear c5
                try clear c5b0
                try clear p6
                try clear c9
                try clear c9b0
                try clear c11
                try clear c11b0
                try clear c13
                try clear c13b0
                try clear c15
                try clear c15b0
                try clear c18
                try clear hcz10_0
                try clear hcz10_1
                try clear hcz10_2
                try clear hcz12_0
                try clear hcz12_1
                try clear hcz12_2
                try clear hcz14_0
                try clear hcz14_1
                try clear hcz14_2
                try clear hcz16_0
                try clear hcz16_1
                try clear hcz16_2
                try clear hcz17_0
                try clear hcz17_1
                try clear hcz17_2
                try clear hcz8_0
                try clear hcz8_1
                try clear hcz8_2
                try clear hfz10_0
                try clear hfz10_1
                try clear hfz10_2
                try clear hfz12_0
                try clear hfz12_1
                try clear hfz12_2
                try clear hfz14_0
                try clear hfz14_1
                try clear hfz14_2
                try clear hfz16_0
                try clear hfz16_1
                try clear hfz16_2
                try clear hfz17_0
                try clear hfz17_1
                try clear hfz17_2
                try clear hfz8_0
                try clear hfz8_1
                try clear hfz8_2
                try clear hx317_0
                try clear hx317_1
                try clear hx317_2
                try clear p2
                try clear p3
                try clear p317
                try clear q3
                try clear q317
                obtain ⟨x3_3, x6_3, rfl, HA, HK3, HO_3, BK318, HB⟩ := hrel
                cases gk with
                | zero => exact absurd HA.out (by simp [ferruleref9_Fold.l1])
                | succ k3 =>
                  have H := HA.out
                  clear HA
                  simp only [ferruleref9_Fold.l1] at H
                  by_cases c19 : x6_3 < ((rd_T38 l0 x4_1).f1)
                  · rw [if_pos c19] at H
                    have c19b0 : decide (x6_3 < ((rd_T38 l0 x4_1).f1)) = true := decide_eq_true c19
                    clear c19
                    by_cases c20 : (wrap64 (((rd_T38 l0 x4_1).f0) + x6_3)) < 512
                    · rw [if_pos c20] at H
                      have c20b0 : decide ((wrap64 (((rd_T38 l0 x4_1).f0) + x6_3)) < 512) = true := decide_eq_true c20
                      clear c20
                      obtain ⟨ji21, hji21⟩ : ∃ j_ : Int, (wrap64 (((rd_T38 l0 x4_1).f0) + x6_3)) = j_ := ⟨_, rfl⟩
                      replace H : (if 0 ≤ (ji21) then (if (ji21) < (x3_3.length : Int) then (ferruleref9_Fold.l1 k3 l0 (x3_3.set ((ji21) : Int).toNat (wrap64 (((rd_T38 l0 x4_1).f2) + x6_3))) x4_1 (wrap64 (x6_3 + 1)) ((rd_T38 l0 x4_1).f0) ((rd_T38 l0 x4_1).f1) ((rd_T38 l0 x4_1).f2)) else (none)) else (none)) = some r := by first | (rw [hji21] at H; exact H) | (simp only [hji21] at H ⊢; exact H)
                      (try rw [hji21] at c20b0)
                      have hji21w : (IntKind.i64.wrap (((rd_T38 l0 x4_1).f0) + x6_3)) = ji21 := (i64_w _).trans hji21
                      by_cases c22 : 0 ≤ (ji21)
                      · rw [if_pos c22] at H
                        have c22b0 : decide (0 ≤ (ji21)) = true := decide_eq_true c22
                        clear c22
                        by_cases c23 : (ji21) < (x3_3.length : Int)
                        · rw [if_pos c23] at H
                          have c23b0 : decide ((ji21) < (x3_3.length : Int)) = true := decide_eq_true c23
                          clear c23
                          obtain ⟨y319, hy319⟩ : ∃ y_ : List Int, y_ = (x3_3.set ((ji21) : Int).toNat (wrap64 (((rd_T38 l0 x4_1).f2) + x6_3))) := ⟨_, rfl⟩
                          replace H : (ferruleref9_Fold.l1 k3 l0 y319 x4_1 (wrap64 (x6_3 + 1)) ((rd_T38 l0 x4_1).f0) ((rd_T38 l0 x4_1).f1) ((rd_T38 l0 x4_1).f2)) = some r := by first | (rw [hy319]; with_reducible exact H) | (have H2_ := (Option.bind_some _ _).symm.trans H; rw [hy319]; with_reducible exact H2_) | (have H2_ := (Option.bind_some _ _).symm.trans H; with_reducible exact H2_) | with_reducible exact H | (rw [hy319]; exact H) | exact H
                          have Ny319 := Aside0.mk hy319
                          clear hy319
                          have H' := Aside0.mk H
                          clear H
                          have hcz25_0 : wr.cell? ⟨gb318, 0, none⟩ = some (.int .i64 ((rd_T38 l0 x4_1).f0)) := (blk_cell BK318.out 0).trans rfl
                          have hcz25_1 : wr.cell? ⟨gb318, 1, none⟩ = some (.int .i64 ((rd_T38 l0 x4_1).f1)) := (blk_cell BK318.out 1).trans rfl
                          have hcz25_2 : wr.cell? ⟨gb318, 2, none⟩ = some (.int .i64 ((rd_T38 l0 x4_1).f2)) := (blk_cell BK318.out 2).trans rfl
                          have hfz25_0 := blk_frozen BK318.out 0
                          have hfz25_1 := blk_frozen BK318.out 1
                          have hfz25_2 := blk_frozen BK318.out 2
                          have p24 : 0 ≤ ((ji21) : Int) := of_decide_eq_true (by with_reducible assumption)
                          have q24 : ((ji21) : Int) < ((x3_3.length : Int) : Int) := of_decide_eq_true (by with_reducible assumption)
                          obtain ⟨go24, co24, eo24, gb24, gl24, cl24, HG24⟩ := Kd.R_form HO_3.out (by omega)
                          (first | cases eo24 | (injection eo24 with ea_ en_ ec_; (first | subst ea_ | (injection ea_ with ea_; subst ea_)); subst ec_; clear en_))
                          have GB24 := Aside0.mk gb24
                          have GG24 := Aside0.mk HG24
                          clear gb24 gl24 HG24
                          obtain ⟨hx24_0, hf24_0⟩ := Kd.R_celln 0 HO_3.out ((ji21) : Int) p24 q24
                          replace p24 := eq_true p24
                          replace q24 := eq_true q24
                          have HP26 := Kd.R_putg HO_3.out ((ji21) : Int) (wrap64 (((rd_T38 l0 x4_1).f2) + x6_3))
                          go_wp2_with (first | ((with_reducible refine gate_store (t := 3) (p := 63) rfl ?_); refine store_event (t := 3) (p := 63) (v := ?vo_w27) (w1 := (wr.setCell ⟨go24, ((ji21) : Int).toNat, none⟩ (.int .i64 (wrap64 (((rd_T38 l0 x4_1).f2) + x6_3))))) ?hg ?ho ?hn ?hr ?_; (case ho => rfl); (case hg => rfl); (case hn => rfl); (case hr => first | (go_simp; done) | (go_simp; rfl)); intro w27 hw; have hg : wr.grownBy w27 (some go24) := (by rw [hw]; exact HP26.2); have hp_ : Kd.R (Kd.int .i64) 3 w27 w.heap.size (fun _ => True) (.slice (some ⟨go24, 0, none⟩) x3_3.length co24) y319 := (by rw [hw, Ny319.out]; exact HP26.1); clear HP26; have n0_ := Aside0.mk (hp_); have n1_ := Aside0.mk (blk_grown (g := gb318) (o := .cells #[.int .i64 ((rd_T38 l0 x4_1).f0), .int .i64 ((rd_T38 l0 x4_1).f1), .int .i64 ((rd_T38 l0 x4_1).f2)] 38 (0, 0)) (by (with_reducible repeat (first | refine blk_drewN ?_ _ | refine blk_drew ?_ | refine blk_alloc ?_ _)); exact BK318.out) hg (Kd.R_ne HO_3.out BK318.out (by decide))); have n2_ := Aside0.mk ((by rw [hw]; exact below_set (HB.out) GB24.out : Below w.heap.size w w27)); clear HO_3; clear BK318; clear HB; have HO_3 := n0_; have BK318 := n1_; have HB := n2_; clear n0_ n1_ n2_; clear hg hw hp_))
                          go_roundg k3
                          case measure => have := HK1.out; have := HJ5.out; have := HK3.out; omega
                          case rel => exact ⟨(y319), (wrap64 (x6_3 + 1)), (by first | rfl | (simp; done) | (simp [*]; done)), H', ⟨by have := HK1.out; have := HJ5.out; have := HK3.out; omega⟩, ⟨by (with_reducible repeat (first | apply Kd.R_alloc | apply Kd.R_drewN | apply Kd.R_drew)); exact HO_3.out⟩, ⟨by (with_reducible repeat (first | refine blk_drewN ?_ _ | refine blk_drew ?_ | refine blk_alloc ?_ _)); exact BK318.out⟩, ⟨by repeat (first | (with_reducible first | exact HB.out | apply below_alloc | apply pw_below_drewN | apply below_drew1 | refine below_set ?_ GE318.out) | exact HB.out)⟩⟩
                        · rw [if_neg c23] at H
                          exact absurd H (by simp)
                      · rw [if_neg c22] at H
                        exact absurd H (by simp)
                    · rw [if_neg c20] at H
                      have c20b0 : decide ((wrap64 (((rd_T38 l0 x4_1).f0) + x6_3)) < 512) = false := decide_eq_false c20
                      clear c20
                      have H' := Aside0.mk H
                      clear H
                      have hcz28_0 : wr.cell? ⟨gb318, 0, none⟩ = some (.int .i64 ((rd_T38 l0 x4_1).f0)) := (blk_cell BK318.out 0).trans rfl
                      have hcz28_1 : wr.cell? ⟨gb318, 1, none⟩ = some (.int .i64 ((rd_T38 l0 x4_1).f1)) := (blk_cell BK318.out 1).trans rfl
                      have hcz28_2 : wr.cell? ⟨gb318, 2, none⟩ = some (.int .i64 ((rd_T38 l0 x4_1).f2)) := (blk_cell BK318.out 2).trans rfl
                      have hfz28_0 := blk_frozen BK318.out 0
                      have hfz28_1 := blk_frozen BK318.out 1
                      have hfz28_2 := blk_frozen BK318.out 2
                      go_wp2
                      go_roundg k3
                      case measure => have := HK1.out; have := HJ5.out; have := HK3.out; omega
                      case rel => exact ⟨(x3_3), (wrap64 (x4_1 + 1)), (by first | rfl | (simp; done) | (simp [*]; done)), H', ⟨by have := HK1.out; have := HJ5.out; have := HK3.out; omega⟩, ⟨by (with_reducible repeat (first | apply Kd.R_alloc | apply Kd.R_drewN | apply Kd.R_drew)); exact HO_3.out⟩, ⟨by repeat (first | (with_reducible first | exact HB.out | apply below_alloc | apply pw_below_drewN | apply below_drew1 | refine below_set ?_ GE318.out) | exact HB.out)⟩⟩
                  · rw [if_neg c19] at H
                    have c19b0 : decide (x6_3 < ((rd_T38 l0 x4_1).f1)) = false := decide_eq_false c19
                    clear c19
                    have H' := Aside0.mk H
                    clear H
                    have hcz29_0 : wr.cell? ⟨gb318, 0, none⟩ = some (.int .i64 ((rd_T38 l0 x4_1).f0)) := (blk_cell BK318.out 0).trans rfl
                    have hcz29_1 : wr.cell? ⟨gb318, 1, none⟩ = some (.int .i64 ((rd_T38 l0 x4_1).f1)) := (blk_cell BK318.out 1).trans rfl
                    have hcz29_2 : wr.cell? ⟨gb318, 2, none⟩ = some (.int .i64 ((rd_T38 l0 x4_1).f2)) := (blk_cell BK318.out 2).trans rfl
                    have hfz29_0 := blk_frozen BK318.out 0
                    have hfz29_1 := blk_frozen BK318.out 1
                    have hfz29_2 := blk_frozen BK318.out 2
                    go_wp2
                    go_roundg k3
                    case measure => have := HK1.out; have := HJ5.out; have := HK3.out; omega
                    case rel => exact ⟨(x3_3), (wrap64 (x4_1 + 1)), (by first | rfl | (simp; done) | (simp [*]; done)), H', ⟨by have := HK1.out; have := HJ5.out; have := HK3.out; omega⟩, ⟨by (with_reducible repeat (first | apply Kd.R_alloc | apply Kd.R_drewN | apply Kd.R_drew)); exact HO_3.out⟩, ⟨by repeat (first | (with_reducible first | exact HB.out | apply below_alloc | apply pw_below_drewN | apply below_drew1 | refine below_set ?_ GE318.out) | exact HB.out)⟩⟩
      · rw [if_neg c5] at H
        exact absurd H (by simp)
    · rw [if_neg c4] at H
      have c4b0 : decide (x4_1 < (l0.length : Int)) = false := decide_eq_false c4
      clear c4
      replace H := Option.bind_eq_some_iff.mp H
      obtain ⟨t314, A300, H⟩ := H
      replace H : (some t314) = some r := H
      have A30 := Aside0.mk A300
      clear A300
      obtain rfl := Option.some.inj H
      obtain ⟨Ao31, co31, eo31⟩ := Kd.R_slice HO_3.out
      subst eo31
      go_wp2_with (first | ((with_reducible refine gate_callee (f := 27) rfl ?_); refine goesL_ (some 65) rfl rfl Try.func27 (by kernel_rfl) rfl #[.slice Ao31 x3_1.length co31] rfl (by (try simp only [List.map_toArray, List.map_cons, List.map_nil]); first | done | rfl | (simp only [List.length_drop, List.length_take]; rfl)) ?_; (with_reducible refine (ferruleref9_Runs.calls k1 _ _ x3_1 t314 _ ?side1 ?side2 A30.out).mono ?_); (case side1 => repeat (first | exact (Kd.R_reads' HO_3.out).2.2 | (with_reducible refine Kd.C_alloc ?_ _) | (with_reducible refine Kd.C_drewN ?_ _) | (with_reducible refine Kd.C_drew ?_))); (case side2 => exact (Kd.R_reads' HO_3.out).2.1); rintro e w32 ⟨v315, rfl, ho0, hb⟩; refine ⟨_, rfl, ?_⟩; have n0_ := Aside0.mk (Kd.R_below (by (with_reducible repeat (first | apply Kd.R_alloc | apply Kd.R_drewN | apply Kd.R_drew)); exact HO_3.out) hb); have n1_ := Aside0.mk (Kd.R_lower ho0 (below_size (by repeat with_reducible first | exact HB.out | apply below_alloc | apply pw_below_drewN | apply below_drew1))); have n2_ := Aside0.mk (below_step (by repeat with_reducible first | exact HB.out | apply below_alloc | apply pw_below_drewN | apply below_drew1) hb); clear HO_3; clear HB; have HO_3 := n0_; have HO316 := n1_; have HB := n2_; clear n0_ n1_ n2_; (try clear hb); (try clear hb2); (try clear hk); (try clear hi); (try clear ho0)))
      go_ret
      exact ⟨_, by first | rfl | (simp [errW_none, errW_some] <;> rfl) | (simp [*, errW_none, errW_some] <;> rfl), by (with_reducible repeat (first | apply Kd.R_alloc | apply Kd.R_drewN | apply Kd.R_drew)); exact HO316.out, by repeat with_reducible first | exact HB.out | apply below_alloc | apply pw_below_drewN | apply below_drew1⟩

end Go.Proofs.Ytigecigoomofdaa.PWindowTells
