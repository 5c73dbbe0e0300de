-- By a program of this session (NOTES.md). Lean checks it.
import Derived.Test.YtigecigoomofdaaPWindowTellsx0
import Derived.Test.YtigecigoomofdaaPWindowTellsx1
import Derived.Test.YtigecigoomofdaaPWindowTellsx2
import Derived.Test.YtigecigoomofdaaPWindowTellsx4
import Derived.Test.YtigecigoomofdaaPWindowTellsx5
namespace Go.Proofs.Ytigecigoomofdaa.PWindowTells
open Go.RowKit Go.Proofs.YtigecigoomofdaaW.PrintWords Go.Proofs.YtigecigoomofdaaW.PrintLast Go.Proofs.YtigecigoomofdaaW.PrintMore
attribute [local go_sem] max2_int min2_int max_two min_two max_three min_three max_four min_four   -- for this text's walks alone
set_option linter.unusedVariables false
set_option linter.unusedSimpArgs false

attribute [local go_sem high] eqA38 eqA39
/-! ### ferrulelaw15_awake: function 7 -/
def ferrulelaw15_awake.f (k : Nat)  : Option (Bool) := (ferrulelaw15_sample.f).bind fun t137 => ((window_Many.f k t137 8 4).bind fun bt140 => ((ferrulelaw15_sample.f).bind fun t144 => ((window_Richest.f k t144 8 4).bind fun bt147 => ((ferrulelaw15_sample.f).bind fun t151 => ((window_Holes.f k t151 0 8).bind fun bt154 => (if bt140.2 = 0 then (if bt147.2.2.2 = 0 then (if bt154.2 = 0 then (if (bt140.1.length : Int) = 2 then (if 0 < (bt140.1.length : Int) then (if (rd bt140.1 0) = 3 then (if 1 < (bt140.1.length : Int) then (if (rd bt140.1 1) = 1 then (if bt147.1 = 0 then (if bt147.2.1 = 4 then (if bt147.2.2.1 = 3 then (if (bt154.1.length : Int) = 2 then (if 0 < (bt154.1.length : Int) then (if (((rd_T38 bt154.1 0).f0) == 1 && (((rd_T38 bt154.1 0).f1) == 1 && (((rd_T38 bt154.1 0).f2) == (-1)))) = true then (if 1 < (bt154.1.length : Int) then (some (((rd_T38 bt154.1 1).f0) == 6 && (((rd_T38 bt154.1 1).f1) == 2 && (((rd_T38 bt154.1 1).f2) == (-1))))) else (none)) else (some false)) else (none)) else (some false)) else (some false)) else (some false)) else (some false)) else (some false)) else (none)) else (some false)) else (none)) else (some false)) else (some false)) else (some false)) else (some false)))))))
theorem ferrulelaw15_awake.mono : ∀ k, LeO (ferrulelaw15_awake.f k ) (ferrulelaw15_awake.f (k + 1) ) := by
  intro  k
  unfold ferrulelaw15_awake.f
  repeat' first
      | (with_reducible exact window_Holes.mono _ _ _ _)
      | (with_reducible exact window_Many.mono _ _ _ _)
      | (with_reducible exact window_Richest.mono _ _ _ _)
      | (with_reducible exact LeO.refl _)
      | (with_reducible exact LeO.none _)
      | (with_reducible refine LeO.ite ?_ ?_)
      | (with_reducible refine LeO.bind ?_ (fun _ => ?_))
      | exact window_Holes.mono _ _ _ _
      | exact window_Many.mono _ _ _ _
      | exact window_Richest.mono _ _ _ _
      | exact LeO.none _
      | refine LeO.ite ?_ ?_
      | refine LeO.bind ?_ (fun _ => ?_)
theorem awake_r_ (k : Nat) (r : Bool) (h : ferrulelaw15_awake.f k = some r) : r = true := by
  have h1 := at_rounds (fun k => ferrulelaw15_awake.mono k) (Nat.le_max_left k 600) h
  have h2 := at_rounds (fun k => ferrulelaw15_awake.mono k) (Nat.le_max_right k 600) (show ferrulelaw15_awake.f 600 = some true by decide +kernel)
  rw [h1] at h2
  exact Option.some.inj h2
set_option maxHeartbeats 8000000 in
set_option maxRecDepth 100000 in
theorem ferrulelaw15_awake.calls (k : Nat)  (r : Bool) (w : World) (h : ferrulelaw15_awake.f k  = some r) :
    Calls Try.prog 7 #[] w fun e w' => e = .returned (.bool r) ∧ Below w.heap.size w w' := by
  have Hr := awake_r_ k r h
  have hu38 := Try.underlying38
  have HB := Aside0.mk (Below.refl w.heap.size w)
  have H : ((ferrulelaw15_sample.f).bind fun t137 => ((window_Many.f k t137 8 4).bind fun bt140 => ((ferrulelaw15_sample.f).bind fun t144 => ((window_Richest.f k t144 8 4).bind fun bt147 => ((ferrulelaw15_sample.f).bind fun t151 => ((window_Holes.f k t151 0 8).bind fun bt154 => (if bt140.2 = 0 then (if bt147.2.2.2 = 0 then (if bt154.2 = 0 then (if (bt140.1.length : Int) = 2 then (if 0 < (bt140.1.length : Int) then (if (rd bt140.1 0) = 3 then (if 1 < (bt140.1.length : Int) then (if (rd bt140.1 1) = 1 then (if bt147.1 = 0 then (if bt147.2.1 = 4 then (if bt147.2.2.1 = 3 then (if (bt154.1.length : Int) = 2 then (if 0 < (bt154.1.length : Int) then (if (((rd_T38 bt154.1 0).f0) == 1 && (((rd_T38 bt154.1 0).f1) == 1 && (((rd_T38 bt154.1 0).f2) == (-1)))) = true then (if 1 < (bt154.1.length : Int) then (some (((rd_T38 bt154.1 1).f0) == 6 && (((rd_T38 bt154.1 1).f1) == 2 && (((rd_T38 bt154.1 1).f2) == (-1))))) else (none)) else (some false)) else (none)) else (some false)) else (some false)) else (some false)) else (some false)) else (some false)) else (none)) else (some false)) else (none)) else (some false)) else (some false)) else (some false)) else (some false)))))))) = some r := h
  clear h
  replace H := Option.bind_eq_some_iff.mp H
  obtain ⟨t137, A10, H⟩ := H
  replace H : ((window_Many.f k t137 8 4).bind fun bt140 => ((ferrulelaw15_sample.f).bind fun t144 => ((window_Richest.f k t144 8 4).bind fun bt147 => ((ferrulelaw15_sample.f).bind fun t151 => ((window_Holes.f k t151 0 8).bind fun bt154 => (if bt140.2 = 0 then (if bt147.2.2.2 = 0 then (if bt154.2 = 0 then (if (bt140.1.length : Int) = 2 then (if 0 < (bt140.1.length : Int) then (if (rd bt140.1 0) = 3 then (if 1 < (bt140.1.length : Int) then (if (rd bt140.1 1) = 1 then (if bt147.1 = 0 then (if bt147.2.1 = 4 then (if bt147.2.2.1 = 3 then (if (bt154.1.length : Int) = 2 then (if 0 < (bt154.1.length : Int) then (if (((rd_T38 bt154.1 0).f0) == 1 && (((rd_T38 bt154.1 0).f1) == 1 && (((rd_T38 bt154.1 0).f2) == (-1)))) = true then (if 1 < (bt154.1.length : Int) then (some (((rd_T38 bt154.1 1).f0) == 6 && (((rd_T38 bt154.1 1).f1) == 2 && (((rd_T38 bt154.1 1).f2) == (-1))))) else (none)) else (some false)) else (none)) else (some false)) else (some false)) else (some false)) else (some false)) else (some false)) else (none)) else (some false)) else (none)) else (some false)) else (some false)) else (some false)) else (some false))))))) = some r := H
  have A1 := Aside0.mk A10
  clear A10
  replace H := Option.bind_eq_some_iff.mp H
  obtain ⟨⟨t140, t141⟩, A20, H⟩ := H
  replace H : ((ferrulelaw15_sample.f).bind fun t144 => ((window_Richest.f k t144 8 4).bind fun bt147 => ((ferrulelaw15_sample.f).bind fun t151 => ((window_Holes.f k t151 0 8).bind fun bt154 => (if t141 = 0 then (if bt147.2.2.2 = 0 then (if bt154.2 = 0 then (if (t140.length : Int) = 2 then (if 0 < (t140.length : Int) then (if (rd t140 0) = 3 then (if 1 < (t140.length : Int) then (if (rd t140 1) = 1 then (if bt147.1 = 0 then (if bt147.2.1 = 4 then (if bt147.2.2.1 = 3 then (if (bt154.1.length : Int) = 2 then (if 0 < (bt154.1.length : Int) then (if (((rd_T38 bt154.1 0).f0) == 1 && (((rd_T38 bt154.1 0).f1) == 1 && (((rd_T38 bt154.1 0).f2) == (-1)))) = true then (if 1 < (bt154.1.length : Int) then (some (((rd_T38 bt154.1 1).f0) == 6 && (((rd_T38 bt154.1 1).f1) == 2 && (((rd_T38 bt154.1 1).f2) == (-1))))) else (none)) else (some false)) else (none)) else (some false)) else (some false)) else (some false)) else (some false)) else (some false)) else (none)) else (some false)) else (none)) else (some false)) else (some false)) else (some false)) else (some false)))))) = some r := H
  have A2 := Aside0.mk A20
  clear A20
  replace H := Option.bind_eq_some_iff.mp H
  obtain ⟨t144, A30, H⟩ := H
  replace H : ((window_Richest.f k t144 8 4).bind fun bt147 => ((ferrulelaw15_sample.f).bind fun t151 => ((window_Holes.f k t151 0 8).bind fun bt154 => (if t141 = 0 then (if bt147.2.2.2 = 0 then (if bt154.2 = 0 then (if (t140.length : Int) = 2 then (if 0 < (t140.length : Int) then (if (rd t140 0) = 3 then (if 1 < (t140.length : Int) then (if (rd t140 1) = 1 then (if bt147.1 = 0 then (if bt147.2.1 = 4 then (if bt147.2.2.1 = 3 then (if (bt154.1.length : Int) = 2 then (if 0 < (bt154.1.length : Int) then (if (((rd_T38 bt154.1 0).f0) == 1 && (((rd_T38 bt154.1 0).f1) == 1 && (((rd_T38 bt154.1 0).f2) == (-1)))) = true then (if 1 < (bt154.1.length : Int) then (some (((rd_T38 bt154.1 1).f0) == 6 && (((rd_T38 bt154.1 1).f1) == 2 && (((rd_T38 bt154.1 1).f2) == (-1))))) else (none)) else (some false)) else (none)) else (some false)) else (some false)) else (some false)) else (some false)) else (some false)) else (none)) else (some false)) else (none)) else (some false)) else (some false)) else (some false)) else (some false))))) = some r := H
  have A3 := Aside0.mk A30
  clear A30
  replace H := Option.bind_eq_some_iff.mp H
  obtain ⟨⟨t147, t148, t149, t150⟩, A40, H⟩ := H
  replace H : ((ferrulelaw15_sample.f).bind fun t151 => ((window_Holes.f k t151 0 8).bind fun bt154 => (if t141 = 0 then (if t150 = 0 then (if bt154.2 = 0 then (if (t140.length : Int) = 2 then (if 0 < (t140.length : Int) then (if (rd t140 0) = 3 then (if 1 < (t140.length : Int) then (if (rd t140 1) = 1 then (if t147 = 0 then (if t148 = 4 then (if t149 = 3 then (if (bt154.1.length : Int) = 2 then (if 0 < (bt154.1.length : Int) then (if (((rd_T38 bt154.1 0).f0) == 1 && (((rd_T38 bt154.1 0).f1) == 1 && (((rd_T38 bt154.1 0).f2) == (-1)))) = true then (if 1 < (bt154.1.length : Int) then (some (((rd_T38 bt154.1 1).f0) == 6 && (((rd_T38 bt154.1 1).f1) == 2 && (((rd_T38 bt154.1 1).f2) == (-1))))) else (none)) else (some false)) else (none)) else (some false)) else (some false)) else (some false)) else (some false)) else (some false)) else (none)) else (some false)) else (none)) else (some false)) else (some false)) else (some false)) else (some false)))) = some r := H
  have A4 := Aside0.mk A40
  clear A40
  replace H := Option.bind_eq_some_iff.mp H
  obtain ⟨t151, A50, H⟩ := H
  replace H : ((window_Holes.f k t151 0 8).bind fun bt154 => (if t141 = 0 then (if t150 = 0 then (if bt154.2 = 0 then (if (t140.length : Int) = 2 then (if 0 < (t140.length : Int) then (if (rd t140 0) = 3 then (if 1 < (t140.length : Int) then (if (rd t140 1) = 1 then (if t147 = 0 then (if t148 = 4 then (if t149 = 3 then (if (bt154.1.length : Int) = 2 then (if 0 < (bt154.1.length : Int) then (if (((rd_T38 bt154.1 0).f0) == 1 && (((rd_T38 bt154.1 0).f1) == 1 && (((rd_T38 bt154.1 0).f2) == (-1)))) = true then (if 1 < (bt154.1.length : Int) then (some (((rd_T38 bt154.1 1).f0) == 6 && (((rd_T38 bt154.1 1).f1) == 2 && (((rd_T38 bt154.1 1).f2) == (-1))))) else (none)) else (some false)) else (none)) else (some false)) else (some false)) else (some false)) else (some false)) else (some false)) else (none)) else (some false)) else (none)) else (some false)) else (some false)) else (some false)) else (some false))) = some r := H
  have A5 := Aside0.mk A50
  clear A50
  replace H := Option.bind_eq_some_iff.mp H
  obtain ⟨⟨t154, t155⟩, A60, H⟩ := H
  replace H : (if t141 = 0 then (if t150 = 0 then (if t155 = 0 then (if (t140.length : Int) = 2 then (if 0 < (t140.length : Int) then (if (rd t140 0) = 3 then (if 1 < (t140.length : Int) then (if (rd t140 1) = 1 then (if t147 = 0 then (if t148 = 4 then (if t149 = 3 then (if (t154.length : Int) = 2 then (if 0 < (t154.length : Int) then (if (((rd_T38 t154 0).f0) == 1 && (((rd_T38 t154 0).f1) == 1 && (((rd_T38 t154 0).f2) == (-1)))) = true then (if 1 < (t154.length : Int) then (some (((rd_T38 t154 1).f0) == 6 && (((rd_T38 t154 1).f1) == 2 && (((rd_T38 t154 1).f2) == (-1))))) else (none)) else (some false)) else (none)) else (some false)) else (some false)) else (some false)) else (some false)) else (some false)) else (none)) else (some false)) else (none)) else (some false)) else (some false)) else (some false)) else (some false)) = some r := H
  have A6 := Aside0.mk A60
  clear A60
  by_cases c7 : t141 = 0
  · rw [if_pos c7] at H
    have c7b0 : (t141 == 0) = true := beq_iff_eq.mpr c7
    have c7b1 : (t141 != 0) = false := bne_eq_false_iff_eq.mpr c7
    clear c7
    by_cases c8 : t150 = 0
    · rw [if_pos c8] at H
      have c8b0 : (t150 == 0) = true := beq_iff_eq.mpr c8
      have c8b1 : (t150 != 0) = false := bne_eq_false_iff_eq.mpr c8
      clear c8
      by_cases c9 : t155 = 0
      · rw [if_pos c9] at H
        have c9b0 : (t155 == 0) = true := beq_iff_eq.mpr c9
        have c9b1 : (t155 != 0) = false := bne_eq_false_iff_eq.mpr c9
        clear c9
        by_cases c10 : (t140.length : Int) = 2
        · rw [if_pos c10] at H
          have c10b0 : ((t140.length : Int) == 2) = true := beq_iff_eq.mpr c10
          have c10b1 : ((t140.length : Int) != 2) = false := bne_eq_false_iff_eq.mpr c10
          clear c10
          by_cases c11 : 0 < (t140.length : Int)
          · rw [if_pos c11] at H
            have c11b0 : decide (0 < (t140.length : Int)) = true := decide_eq_true c11
            have c11b1 : decide (0 < t140.length) = true := decide_eq_true (by omega)
            clear c11
            by_cases c12 : (rd t140 0) = 3
            · rw [if_pos c12] at H
              have c12b0 : ((rd t140 0) == 3) = true := beq_iff_eq.mpr c12
              have c12b1 : ((rd t140 0) != 3) = false := bne_eq_false_iff_eq.mpr c12
              clear c12
              by_cases c13 : 1 < (t140.length : Int)
              · rw [if_pos c13] at H
                have c13b0 : decide (1 < (t140.length : Int)) = true := decide_eq_true c13
                have c13b1 : decide (1 < t140.length) = true := decide_eq_true (by omega)
                clear c13
                by_cases c14 : (rd t140 1) = 1
                · rw [if_pos c14] at H
                  have c14b0 : ((rd t140 1) == 1) = true := beq_iff_eq.mpr c14
                  have c14b1 : ((rd t140 1) != 1) = false := bne_eq_false_iff_eq.mpr c14
                  clear c14
                  by_cases c15 : t147 = 0
                  · rw [if_pos c15] at H
                    have c15b0 : (t147 == 0) = true := beq_iff_eq.mpr c15
                    have c15b1 : (t147 != 0) = false := bne_eq_false_iff_eq.mpr c15
                    clear c15
                    by_cases c16 : t148 = 4
                    · rw [if_pos c16] at H
                      have c16b0 : (t148 == 4) = true := beq_iff_eq.mpr c16
                      have c16b1 : (t148 != 4) = false := bne_eq_false_iff_eq.mpr c16
                      clear c16
                      by_cases c17 : t149 = 3
                      · rw [if_pos c17] at H
                        have c17b0 : (t149 == 3) = true := beq_iff_eq.mpr c17
                        have c17b1 : (t149 != 3) = false := bne_eq_false_iff_eq.mpr c17
                        clear c17
                        by_cases c18 : (t154.length : Int) = 2
                        · rw [if_pos c18] at H
                          have c18b0 : ((t154.length : Int) == 2) = true := beq_iff_eq.mpr c18
                          have c18b1 : ((t154.length : Int) != 2) = false := bne_eq_false_iff_eq.mpr c18
                          clear c18
                          by_cases c19 : 0 < (t154.length : Int)
                          · rw [if_pos c19] at H
                            have c19b0 : decide (0 < (t154.length : Int)) = true := decide_eq_true c19
                            have c19b1 : decide (0 < t154.length) = true := decide_eq_true (by omega)
                            clear c19
                            by_cases c20 : (((rd_T38 t154 0).f0) == 1 && (((rd_T38 t154 0).f1) == 1 && (((rd_T38 t154 0).f2) == (-1)))) = true
                            · rw [if_pos c20] at H
                              have c20b0 : (((rd_T38 t154 0).f0) == 1 && (((rd_T38 t154 0).f1) == 1 && (((rd_T38 t154 0).f2) == (-1)))) = true := c20
                              (try (have c20b1 : decide (((rd_T38 t154 0).f0) = 1 && (((rd_T38 t154 0).f1) == 1 && (((rd_T38 t154 0).f2) == (-1)))) = true := by simpa using c20))
                              (try (have c20b2 : (((rd_T38 t154 0).f0) == 1 && (((rd_T38 t154 0).f1) == 1 && (((rd_T38 t154 0).f2) == (-1)))) = true := by simpa using c20))
                              clear c20
                              by_cases c21 : 1 < (t154.length : Int)
                              · rw [if_pos c21] at H
                                have c21b0 : decide (1 < (t154.length : Int)) = true := decide_eq_true c21
                                have c21b1 : decide (1 < t154.length) = true := decide_eq_true (by omega)
                                clear c21
                                obtain rfl := Option.some.inj H
                                go_enter Try.func7, Try.ntmps7
                                go_wp2_with (first | ((with_reducible refine gate_callee (f := 9) rfl ?_); refine goesL_ (some 10) rfl rfl Try.func9 (by kernel_rfl) rfl #[] rfl (by (try simp only [List.map_toArray, List.map_cons, List.map_nil]); first | done | rfl | (simp only [List.length_drop, List.length_take]; rfl)) ?_; (with_reducible refine (ferrulelaw15_sample.calls  t137 _ A1.out).mono ?_); rintro e w22 ⟨v138, rfl, ho0, hb⟩; refine ⟨_, rfl, ?_⟩; have n0_ := Aside0.mk (Kd.R_lower ho0 (below_size (by repeat with_reducible first | exact HB.out | apply below_alloc | apply pw_below_drewN | apply below_drew1))); have n1_ := Aside0.mk (below_step (by repeat with_reducible first | exact HB.out | apply below_alloc | apply pw_below_drewN | apply below_drew1) hb); clear HB; have HO139 := n0_; have HB := n1_; clear n0_ n1_; (try clear hb); (try clear hb2); (try clear hk); (try clear hi); (try clear ho0); obtain ⟨Ao23, co23, eo23⟩ := Kd.R_slice HO139.out; subst eo23) | ((with_reducible refine gate_callee (f := 10) rfl ?_); refine goesL_ (some 11) rfl rfl Try.func10 (by kernel_rfl) rfl #[.slice Ao23 t137.length co23, .int .i64 8, .int .i64 4] rfl (by (try simp only [List.map_toArray, List.map_cons, List.map_nil]); first | done | rfl | (simp only [List.length_drop, List.length_take]; rfl)) ?_; (with_reducible refine (window_Many.calls k _ _ t137 8 4 t140 t141 _ ?side1 ?side2 A2.out).mono ?_); (case side1 => repeat (first | exact (Kd.R_reads' HO139.out).2.2 | (with_reducible refine Kd.C_alloc ?_ _) | (with_reducible refine Kd.C_drewN ?_ _) | (with_reducible refine Kd.C_drew ?_))); (case side2 => exact (Kd.R_reads' HO139.out).2.1); rintro e w24 ⟨v142, rfl, ho0, hb⟩; refine ⟨_, rfl, ?_⟩; have n0_ := Aside0.mk (Kd.R_below (by (with_reducible repeat (first | apply Kd.R_alloc | apply Kd.R_drewN | apply Kd.R_drew)); exact HO139.out) hb); have n1_ := Aside0.mk (Kd.R_lower ho0 (below_size (by repeat with_reducible first | exact HB.out | apply below_alloc | apply pw_below_drewN | apply below_drew1))); have n2_ := Aside0.mk (below_step (by repeat with_reducible first | exact HB.out | apply below_alloc | apply pw_below_drewN | apply below_drew1) hb); clear HO139; clear HB; have HO139 := n0_; have HO143 := n1_; have HB := n2_; clear n0_ n1_ n2_; (try clear hb); (try clear hb2); (try clear hk); (try clear hi); (try clear ho0)) | ((with_reducible refine gate_callee (f := 9) rfl ?_); refine goesL_ (some 15) rfl rfl Try.func9 (by kernel_rfl) rfl #[] rfl (by (try simp only [List.map_toArray, List.map_cons, List.map_nil]); first | done | rfl | (simp only [List.length_drop, List.length_take]; rfl)) ?_; (with_reducible refine (ferrulelaw15_sample.calls  t144 _ A3.out).mono ?_); rintro e w25 ⟨v145, rfl, ho0, hb⟩; refine ⟨_, rfl, ?_⟩; have n0_ := Aside0.mk (Kd.R_elder' (by (with_reducible repeat (first | apply Kd.R_alloc | apply Kd.R_drewN | apply Kd.R_drew)); exact HO139.out) (Kd.R_base ho0) hb); have n1_ := Aside0.mk (Kd.R_below (by (with_reducible repeat (first | apply Kd.R_alloc | apply Kd.R_drewN | apply Kd.R_drew)); exact HO143.out) hb); have n2_ := Aside0.mk (Kd.R_lower (Kd.R_new' ho0 (Kd.R_lt (by (with_reducible repeat (first | apply Kd.R_alloc | apply Kd.R_drewN | apply Kd.R_drew)); exact HO139.out))) (below_size (by repeat with_reducible first | exact HB.out | apply below_alloc | apply pw_below_drewN | apply below_drew1))); have n3_ := Aside0.mk (below_step (by repeat with_reducible first | exact HB.out | apply below_alloc | apply pw_below_drewN | apply below_drew1) hb); clear HO139; clear HO143; clear HB; have HO139 := n0_; have HO143 := n1_; have HO146 := n2_; have HB := n3_; clear n0_ n1_ n2_ n3_; (try clear hb); (try clear hb2); (try clear hk); (try clear hi); (try clear ho0); obtain ⟨Ao26, co26, eo26⟩ := Kd.R_slice HO146.out; subst eo26) | ((with_reducible refine gate_callee (f := 11) rfl ?_); refine goesL_ (some 16) rfl rfl Try.func11 (by kernel_rfl) rfl #[.slice Ao26 t144.length co26, .int .i64 8, .int .i64 4] rfl (by (try simp only [List.map_toArray, List.map_cons, List.map_nil]); first | done | rfl | (simp only [List.length_drop, List.length_take]; rfl)) ?_; (with_reducible refine (window_Richest.calls k _ _ t144 8 4 t147 t148 t149 t150 _ ?side1 ?side2 A4.out).mono ?_); (case side1 => repeat (first | exact (Kd.R_reads' HO146.out).2.2 | (with_reducible refine Kd.C_alloc ?_ _) | (with_reducible refine Kd.C_drewN ?_ _) | (with_reducible refine Kd.C_drew ?_))); (case side2 => exact (Kd.R_reads' HO146.out).2.1); rintro e w27 ⟨rfl, hb⟩; refine ⟨_, rfl, ?_⟩; have n0_ := Aside0.mk (Kd.R_below (by (with_reducible repeat (first | apply Kd.R_alloc | apply Kd.R_drewN | apply Kd.R_drew)); exact HO139.out) hb); have n1_ := Aside0.mk (Kd.R_below (by (with_reducible repeat (first | apply Kd.R_alloc | apply Kd.R_drewN | apply Kd.R_drew)); exact HO143.out) hb); have n2_ := Aside0.mk (Kd.R_below (by (with_reducible repeat (first | apply Kd.R_alloc | apply Kd.R_drewN | apply Kd.R_drew)); exact HO146.out) hb); have n3_ := Aside0.mk (below_step (by repeat with_reducible first | exact HB.out | apply below_alloc | apply pw_below_drewN | apply below_drew1) hb); clear HO139; clear HO143; clear HO146; clear HB; have HO139 := n0_; have HO143 := n1_; have HO146 := n2_; have HB := n3_; clear n0_ n1_ n2_ n3_; (try clear hb); (try clear hb2); (try clear hk); (try clear hi)) | ((with_reducible refine gate_callee (f := 9) rfl ?_); refine goesL_ (some 22) rfl rfl Try.func9 (by kernel_rfl) rfl #[] rfl (by (try simp only [List.map_toArray, List.map_cons, List.map_nil]); first | done | rfl | (simp only [List.length_drop, List.length_take]; rfl)) ?_; (with_reducible refine (ferrulelaw15_sample.calls  t151 _ A5.out).mono ?_); rintro e w28 ⟨v152, rfl, ho0, hb⟩; refine ⟨_, rfl, ?_⟩; have n0_ := Aside0.mk (Kd.R_elder' (by (with_reducible repeat (first | apply Kd.R_alloc | apply Kd.R_drewN | apply Kd.R_drew)); exact HO139.out) (Kd.R_base ho0) hb); have n1_ := Aside0.mk (Kd.R_below (by (with_reducible repeat (first | apply Kd.R_alloc | apply Kd.R_drewN | apply Kd.R_drew)); exact HO143.out) hb); have n2_ := Aside0.mk (Kd.R_elder' (by (with_reducible repeat (first | apply Kd.R_alloc | apply Kd.R_drewN | apply Kd.R_drew)); exact HO146.out) (Kd.R_base ho0) hb); have n3_ := Aside0.mk (Kd.R_lower (Kd.R_new' (Kd.R_new' ho0 (Kd.R_lt (by (with_reducible repeat (first | apply Kd.R_alloc | apply Kd.R_drewN | apply Kd.R_drew)); exact HO139.out))) (Kd.R_lt (by (with_reducible repeat (first | apply Kd.R_alloc | apply Kd.R_drewN | apply Kd.R_drew)); exact HO146.out))) (below_size (by repeat with_reducible first | exact HB.out | apply below_alloc | apply pw_below_drewN | apply below_drew1))); have n4_ := Aside0.mk (below_step (by repeat with_reducible first | exact HB.out | apply below_alloc | apply pw_below_drewN | apply below_drew1) hb); clear HO139; clear HO143; clear HO146; clear HB; have HO139 := n0_; have HO143 := n1_; have HO146 := n2_; have HO153 := n3_; have HB := n4_; clear n0_ n1_ n2_ n3_ n4_; (try clear hb); (try clear hb2); (try clear hk); (try clear hi); (try clear ho0); obtain ⟨Ao29, co29, eo29⟩ := Kd.R_slice HO153.out; subst eo29) | ((with_reducible refine gate_callee (f := 8) rfl ?_); refine goesL_ (some 23) rfl rfl Try.func8 (by kernel_rfl) rfl #[.slice Ao29 t151.length co29, .int .i64 0, .int .i64 8] rfl (by (try simp only [List.map_toArray, List.map_cons, List.map_nil]); first | done | rfl | (simp only [List.length_drop, List.length_take]; rfl)) ?_; (with_reducible refine (window_Holes.calls k _ _ t151 0 8 t154 t155 _ ?side1 ?side2 A6.out).mono ?_); (case side1 => repeat (first | exact (Kd.R_reads' HO153.out).2.2 | (with_reducible refine Kd.C_alloc ?_ _) | (with_reducible refine Kd.C_drewN ?_ _) | (with_reducible refine Kd.C_drew ?_))); (case side2 => exact (Kd.R_reads' HO153.out).2.1); rintro e w30 ⟨v156, rfl, ho0, hb⟩; refine ⟨_, rfl, ?_⟩; have n0_ := Aside0.mk (Kd.R_below (by (with_reducible repeat (first | apply Kd.R_alloc | apply Kd.R_drewN | apply Kd.R_drew)); exact HO139.out) hb); have n1_ := Aside0.mk (Kd.R_below (by (with_reducible repeat (first | apply Kd.R_alloc | apply Kd.R_drewN | apply Kd.R_drew)); exact HO143.out) hb); have n2_ := Aside0.mk (Kd.R_below (by (with_reducible repeat (first | apply Kd.R_alloc | apply Kd.R_drewN | apply Kd.R_drew)); exact HO146.out) hb); have n3_ := Aside0.mk (Kd.R_below (by (with_reducible repeat (first | apply Kd.R_alloc | apply Kd.R_drewN | apply Kd.R_drew)); exact HO153.out) hb); have n4_ := Aside0.mk (Kd.R_lower ho0 (below_size (by repeat with_reducible first | exact HB.out | apply below_alloc | apply pw_below_drewN | apply below_drew1))); have n5_ := Aside0.mk (below_step (by repeat with_reducible first | exact HB.out | apply below_alloc | apply pw_below_drewN | apply below_drew1) hb); clear HO139; clear HO143; clear HO146; clear HO153; clear HB; have HO139 := n0_; have HO143 := n1_; have HO146 := n2_; have HO153 := n3_; have HO157 := n4_; have HB := n5_; clear n0_ n1_ n2_ n3_ n4_ n5_; (try clear hb); (try clear hb2); (try clear hk); (try clear hi); (try clear ho0); obtain ⟨Ao31, co31, eo31⟩ := Kd.R_slice HO143.out; subst eo31; have p158 : 0 ≤ (0 : Int) := (by omega); have q158 : 0 < (t140.length : Int) := of_decide_eq_true (by with_reducible assumption); obtain ⟨ad158, e158, hx158_0⟩ := Kd.at_int (Kd.R_reads' HO143.out).2.2 0 p158 q158; cases e158; have qi158 : (0 < t140.length) = True := eq_true (by omega); (try rw [show ((0 : Int)).toNat = 0 from rfl] at hx158_0); (try rw [Addr.add_zero'] at hx158_0); replace p158 := eq_true p158; replace q158 := eq_true q158; have p159 : 0 ≤ (1 : Int) := (by omega); have q159 : 1 < (t140.length : Int) := of_decide_eq_true (by with_reducible assumption); obtain ⟨ad159, e159, hx159_0⟩ := Kd.at_int (Kd.R_reads' HO143.out).2.2 1 p159 q159; obtain rfl : ad158 = ad159 := (by injection e159); (try simp only [show (1 : Int).toNat = 1 from rfl, Nat.reduceMul, Nat.reduceEqDiff, Go.Addr.add, ↓reduceIte] at hx159_0); have qi159 : (1 < t140.length) = True := eq_true (by omega); (try rw [show ((1 : Int)).toNat = 1 from rfl] at hx159_0); replace p159 := eq_true p159; replace q159 := eq_true q159; obtain ⟨Ao32, co32, eo32⟩ := Kd.R_slice HO157.out; subst eo32; have p160 : 0 ≤ (0 : Int) := (by omega); have q160 : 0 < (t154.length : Int) := of_decide_eq_true (by with_reducible assumption); obtain ⟨ad160, e160, hx160_0, hx160_1, hx160_2⟩ := at_T38 (Kd.R_reads' HO157.out).2.2 0 p160 q160; cases e160; have qi160 : (0 < t154.length) = True := eq_true (by omega); (try rw [show ((0 : Int)).toNat = 0 from rfl] at hx160_0); (try rw [show 0 * 3 = 0 from rfl] at hx160_0); (try rw [Addr.add_zero'] at hx160_0); (try rw [show ((0 : Int)).toNat = 0 from rfl] at hx160_1); (try rw [show 0 * 3 = 0 from rfl] at hx160_1); (try rw [Addr.add_zero'] at hx160_1); (try rw [show ((0 : Int)).toNat = 0 from rfl] at hx160_2); (try rw [show 0 * 3 = 0 from rfl] at hx160_2); (try rw [Addr.add_zero'] at hx160_2); replace p160 := eq_true p160; replace q160 := eq_true q160; have p161 : 0 ≤ (1 : Int) := (by omega); have q161 : 1 < (t154.length : Int) := of_decide_eq_true (by with_reducible assumption); obtain ⟨ad161, e161, hx161_0, hx161_1, hx161_2⟩ := at_T38 (Kd.R_reads' HO157.out).2.2 1 p161 q161; obtain rfl : ad160 = ad161 := (by injection e161); (try simp only [show (1 : Int).toNat = 1 from rfl, Nat.reduceMul, Nat.reduceEqDiff, Go.Addr.add, ↓reduceIte] at hx161_0); (try simp only [show (1 : Int).toNat = 1 from rfl, Nat.reduceMul, Nat.reduceEqDiff, Go.Addr.add, ↓reduceIte] at hx161_1); (try simp only [show (1 : Int).toNat = 1 from rfl, Nat.reduceMul, Nat.reduceEqDiff, Go.Addr.add, ↓reduceIte] at hx161_2); have qi161 : (1 < t154.length) = True := eq_true (by omega); (try rw [show ((1 : Int)).toNat = 1 from rfl] at hx161_0); (try rw [show 1 * 3 = 3 from rfl] at hx161_0); (try rw [show ((1 : Int)).toNat = 1 from rfl] at hx161_1); (try rw [show 1 * 3 = 3 from rfl] at hx161_1); (try rw [show ((1 : Int)).toNat = 1 from rfl] at hx161_2); (try rw [show 1 * 3 = 3 from rfl] at hx161_2); replace p161 := eq_true p161; replace q161 := eq_true q161))
                                go_ret
                                exact ⟨by first | rfl | (simp [errW_none, errW_some] <;> rfl) | (simp [*, errW_none, errW_some] <;> rfl), by repeat with_reducible first | exact HB.out | apply below_alloc | apply pw_below_drewN | apply below_drew1⟩
                              · rw [if_neg c21] at H
                                exact absurd H (by simp)
                            · rw [if_neg c20] at H
                              exact absurd ((Option.some.inj H).trans Hr) (by decide)
                          · rw [if_neg c19] at H
                            exact absurd H (by simp)
                        · rw [if_neg c18] at H
                          exact absurd ((Option.some.inj H).trans Hr) (by decide)
                      · rw [if_neg c17] at H
                        exact absurd ((Option.some.inj H).trans Hr) (by decide)
                    · rw [if_neg c16] at H
                      exact absurd ((Option.some.inj H).trans Hr) (by decide)
                  · rw [if_neg c15] at H
                    exact absurd ((Option.some.inj H).trans Hr) (by decide)
                · rw [if_neg c14] at H
                  exact absurd ((Option.some.inj H).trans Hr) (by decide)
              · rw [if_neg c13] at H
                exact absurd H (by simp)
            · rw [if_neg c12] at H
              exact absurd ((Option.some.inj H).trans Hr) (by decide)
          · rw [if_neg c11] at H
            exact absurd H (by simp)
        · rw [if_neg c10] at H
          exact absurd ((Option.some.inj H).trans Hr) (by decide)
      · rw [if_neg c9] at H
        exact absurd ((Option.some.inj H).trans Hr) (by decide)
    · rw [if_neg c8] at H
      exact absurd ((Option.some.inj H).trans Hr) (by decide)
  · rw [if_neg c7] at H
    exact absurd ((Option.some.inj H).trans Hr) (by decide)

/-! ### ferruleref9_Same: function 19 -/
def ferruleref9_Same.l0 : Nat → List (S39) → List (S39) → Int → Option (Bool)
  | 0, _, _, _ => none
  | k + 1, x0, x1, x5 => if x5 < (x0.length : Int) then (if 0 ≤ x5 then (if x5 < (x1.length : Int) then (if (!(((rd_T39 x0 x5).f0) == ((rd_T39 x1 x5).f0)) || (!(((rd_T39 x0 x5).f1) == ((rd_T39 x1 x5).f1)) || (!(((rd_T39 x0 x5).f2) == ((rd_T39 x1 x5).f2))))) = true then (some false) else (ferruleref9_Same.l0 k x0 x1 (wrap64 (x5 + 1)))) else (none)) else (none)) else (some true)
def ferruleref9_Same.f (k : Nat) (l0 : List (S39)) (l1 : List (S39)) : Option (Bool) := if (l0.length : Int) = (l1.length : Int) then (ferruleref9_Same.l0 k l0 l1 0) else (some false)
theorem ferruleref9_Same.mono_l : ∀ k, (∀ y0 y1 y2, LeO (ferruleref9_Same.l0 k y0 y1 y2) (ferruleref9_Same.l0 (k + 1) y0 y1 y2))
  | 0 => fun _ _ _ r h => by simp [ferruleref9_Same.l0] at h
  | k + 1 => by
    have ih0 := ferruleref9_Same.mono_l k
    · intro y0 y1 y2
      unfold ferruleref9_Same.l0
      repeat' first
      | (with_reducible exact ih0 _ _ _)
      | (with_reducible exact LeO.refl _)
      | (with_reducible exact LeO.none _)
      | (with_reducible refine LeO.ite ?_ ?_)
      | (with_reducible refine LeO.bind ?_ (fun _ => ?_))
      | exact ih0 _ _ _
      | exact LeO.none _
      | refine LeO.ite ?_ ?_
      | refine LeO.bind ?_ (fun _ => ?_)
theorem ferruleref9_Same.mono : ∀ a0 a1 k, LeO (ferruleref9_Same.f k a0 a1) (ferruleref9_Same.f (k + 1) a0 a1) := by
  intro a0 a1 k
  have ih0 := ferruleref9_Same.mono_l k
  unfold ferruleref9_Same.f
  repeat' first
      | (with_reducible exact ih0 _ _ _)
      | (with_reducible exact LeO.refl _)
      | (with_reducible exact LeO.none _)
      | (with_reducible refine LeO.ite ?_ ?_)
      | (with_reducible refine LeO.bind ?_ (fun _ => ?_))
      | exact ih0 _ _ _
      | exact LeO.none _
      | refine LeO.ite ?_ ?_
      | refine LeO.bind ?_ (fun _ => ?_)
set_option maxHeartbeats 8000000 in
set_option maxRecDepth 100000 in
theorem ferruleref9_Same.calls (k : Nat) (A0 : Option Addr) (c0 : Nat) (l0 : List (S39)) (A1 : Option Addr) (c1 : Nat) (l1 : List (S39)) (r : Bool) (w : World) (hr0 : Kd.C k39 w A0 l0.length l0) (hc0 : l0.length ≤ c0) (hr1 : Kd.C k39 w A1 l1.length l1) (hc1 : l1.length ≤ c1) (h : ferruleref9_Same.f k l0 l1 = some r) :
    Calls Try.prog 19 #[.slice A0 l0.length c0, .slice A1 l1.length c1] w fun e w' => e = .returned (.bool r) ∧ Drawn0 w w' := by
  have hu39 := Try.underlying39
  have HR0 := Aside0.mk hr0
  have HC0 := Aside0.mk hc0
  clear hr0 hc0
  have HR1 := Aside0.mk hr1
  have HC1 := Aside0.mk hc1
  clear hr1 hc1
  have H : (if (l0.length : Int) = (l1.length : Int) then (ferruleref9_Same.l0 k l0 l1 0) else (some false)) = some r := h
  clear h
  by_cases c3 : (l0.length : Int) = (l1.length : Int)
  · rw [if_pos c3] at H
    have c3b0 : ((l0.length : Int) == (l1.length : Int)) = true := beq_iff_eq.mpr c3
    have c3b1 : ((l0.length : Int) != (l1.length : Int)) = false := bne_eq_false_iff_eq.mpr c3
    have c3b2 : (l0.length == l1.length) = true := by first | simpa using c3 | (simp at c3 ⊢; omega)
    clear c3
    have H' := Aside0.mk H
    clear H
    go_enter Try.func19, Try.ntmps19
    go_wp2
    repeat (go_quiet (fail); try go_wp2)
    go_loopg [5] k (fun kq v5 w' => ∃ (x5_1 : Int), v5 = .int .i64 x5_1 ∧ Aside0 (ferruleref9_Same.l0 kq l0 l1 x5_1 = some r) ∧ Aside0 (kq ≤ k) ∧ Drawn0 w w')
    case atStart => exact ⟨(0), (by first | rfl | (simp; done) | (simp [*]; done)), H', ⟨Nat.le_refl _⟩, by repeat (first | exact Drawn0.refl _ | apply Drawn0.step)⟩
    case round =>
      clear H'
      try clear c1
      try clear p2
      try clear c3
      try clear c3b0
      try clear c3b1
      try clear c3b2
      obtain ⟨x5_1, rfl, HA, HK1, ⟨m1, rfl⟩⟩ := hrel
      cases gk with
      | zero => exact absurd HA.out (by simp [ferruleref9_Same.l0])
      | succ k1 =>
        have H := HA.out
        clear HA
        simp only [ferruleref9_Same.l0] at H
        by_cases c4 : x5_1 < (l0.length : Int)
        · rw [if_pos c4] at H
          have c4b0 : decide (x5_1 < (l0.length : Int)) = true := decide_eq_true c4
          clear c4
          by_cases c5 : 0 ≤ x5_1
          · rw [if_pos c5] at H
            have c5b0 : decide (0 ≤ x5_1) = true := decide_eq_true c5
            clear c5
            by_cases c6 : x5_1 < (l1.length : Int)
            · rw [if_pos c6] at H
              have c6b0 : decide (x5_1 < (l1.length : Int)) = true := decide_eq_true c6
              clear c6
              by_cases c7 : (!(((rd_T39 l0 x5_1).f0) == ((rd_T39 l1 x5_1).f0)) || (!(((rd_T39 l0 x5_1).f1) == ((rd_T39 l1 x5_1).f1)) || (!(((rd_T39 l0 x5_1).f2) == ((rd_T39 l1 x5_1).f2))))) = true
              · rw [if_pos c7] at H
                have c7b0 : (!(((rd_T39 l0 x5_1).f0) == ((rd_T39 l1 x5_1).f0)) || (!(((rd_T39 l0 x5_1).f1) == ((rd_T39 l1 x5_1).f1)) || (!(((rd_T39 l0 x5_1).f2) == ((rd_T39 l1 x5_1).f2))))) = true := c7
                clear c7
                obtain rfl := Option.some.inj H
                have p162 : 0 ≤ (x5_1 : Int) := of_decide_eq_true (by with_reducible assumption)
                have q162 : x5_1 < (l0.length : Int) := of_decide_eq_true (by with_reducible assumption)
                obtain ⟨ad162, e162, hx162_0, hx162_1, hx162_2⟩ := at_T39 HR0.out x5_1 p162 q162
                cases e162
                replace p162 := eq_true p162
                replace q162 := eq_true q162
                have p163 : 0 ≤ (x5_1 : Int) := of_decide_eq_true (by with_reducible assumption)
                have q163 : x5_1 < (l1.length : Int) := of_decide_eq_true (by with_reducible assumption)
                obtain ⟨ad163, e163, hx163_0, hx163_1, hx163_2⟩ := at_T39 HR1.out x5_1 p163 q163
                cases e163
                replace p163 := eq_true p163
                replace q163 := eq_true q163
                go_wp2
                repeat (go_quiet (fail); try go_wp2)
                go_ret
                exact ⟨by first | rfl | (simp; done) | (simp [*]; done), by repeat (first | exact Drawn0.refl _ | apply Drawn0.step)⟩
              · rw [if_neg c7] at H
                have c7b0 : (!(((rd_T39 l0 x5_1).f0) == ((rd_T39 l1 x5_1).f0)) || (!(((rd_T39 l0 x5_1).f1) == ((rd_T39 l1 x5_1).f1)) || (!(((rd_T39 l0 x5_1).f2) == ((rd_T39 l1 x5_1).f2))))) = false := by simpa using c7
                clear c7
                have H' := Aside0.mk H
                clear H
                have p162 : 0 ≤ (x5_1 : Int) := of_decide_eq_true (by with_reducible assumption)
                have q162 : x5_1 < (l0.length : Int) := of_decide_eq_true (by with_reducible assumption)
                obtain ⟨ad162, e162, hx162_0, hx162_1, hx162_2⟩ := at_T39 HR0.out x5_1 p162 q162
                cases e162
                replace p162 := eq_true p162
                replace q162 := eq_true q162
                have p163 : 0 ≤ (x5_1 : Int) := of_decide_eq_true (by with_reducible assumption)
                have q163 : x5_1 < (l1.length : Int) := of_decide_eq_true (by with_reducible assumption)
                obtain ⟨ad163, e163, hx163_0, hx163_1, hx163_2⟩ := at_T39 HR1.out x5_1 p163 q163
                cases e163
                replace p163 := eq_true p163
                replace q163 := eq_true q163
                go_wp2
                repeat (go_quiet (fail); try go_wp2)
                go_roundg k1
                case measure => have := HK1.out; omega
                case rel => exact ⟨(wrap64 (x5_1 + 1)), (by first | rfl | (simp; done) | (simp [*]; done)), H', ⟨by have := HK1.out; omega⟩, by repeat (first | exact Drawn0.refl _ | apply Drawn0.step)⟩
            · rw [if_neg c6] at H
              exact absurd H (by simp)
          · rw [if_neg c5] at H
            exact absurd H (by simp)
        · rw [if_neg c4] at H
          have c4b0 : decide (x5_1 < (l0.length : Int)) = false := decide_eq_false c4
          clear c4
          obtain rfl := Option.some.inj H
          go_wp2
          repeat (go_quiet (fail); try go_wp2)
          go_ret
          exact ⟨by first | rfl | (simp; done) | (simp [*]; done), by repeat (first | exact Drawn0.refl _ | apply Drawn0.step)⟩
  · rw [if_neg c3] at H
    have c3b0 : ((l0.length : Int) == (l1.length : Int)) = false := beq_eq_false_iff_ne.mpr c3
    have c3b1 : ((l0.length : Int) != (l1.length : Int)) = true := bne_iff_ne.mpr c3
    have c3b2 : (l0.length == l1.length) = false := by first | simpa using c3 | (simp at c3 ⊢; omega)
    obtain rfl := Option.some.inj H
    go_enter Try.func19, Try.ntmps19
    go_wp2
    repeat (go_quiet (fail); try go_wp2)
    go_ret
    exact ⟨by first | rfl | (simp; done) | (simp [*]; done), by repeat (first | exact Drawn0.refl _ | apply Drawn0.step)⟩

/-! ### ferruleref9_Ends: function 24 -/
def ferruleref9_Ends.f (l0 : List (S39)) (a1 : Int) : Option (Bool) := if (l0.length : Int) = 0 then (some true) else (if 0 ≤ (wrap64 ((l0.length : Int) - 1)) then (if (wrap64 ((l0.length : Int) - 1)) < (l0.length : Int) then (some (decide ((wrap64 (((rd_T39 l0 (wrap64 ((l0.length : Int) - 1))).f0) + ((rd_T39 l0 (wrap64 ((l0.length : Int) - 1))).f1))) ≤ a1))) else (none)) else (none))
set_option maxHeartbeats 8000000 in
set_option maxRecDepth 100000 in
theorem ferruleref9_Ends.calls (A0 : Option Addr) (c0 : Nat) (l0 : List (S39)) (a1 : Int) (r : Bool) (w : World) (hr0 : Kd.C k39 w A0 l0.length l0) (hc0 : l0.length ≤ c0) (h : ferruleref9_Ends.f l0 a1 = some r) :
    Calls Try.prog 24 #[.slice A0 l0.length c0, .int .i64 a1] w fun e w' => e = .returned (.bool r) ∧ Drawn0 w w' := by
  have HR0 := Aside0.mk hr0
  have HC0 := Aside0.mk hc0
  clear hr0 hc0
  have H : (if (l0.length : Int) = 0 then (some true) else (if 0 ≤ (wrap64 ((l0.length : Int) - 1)) then (if (wrap64 ((l0.length : Int) - 1)) < (l0.length : Int) then (some (decide ((wrap64 (((rd_T39 l0 (wrap64 ((l0.length : Int) - 1))).f0) + ((rd_T39 l0 (wrap64 ((l0.length : Int) - 1))).f1))) ≤ a1))) else (none)) else (none))) = some r := h
  clear h
  by_cases c3 : (l0.length : Int) = 0
  · rw [if_pos c3] at H
    have c3b0 : ((l0.length : Int) == 0) = true := beq_iff_eq.mpr c3
    have c3b1 : ((l0.length : Int) != 0) = false := bne_eq_false_iff_eq.mpr c3
    clear c3
    obtain rfl := Option.some.inj H
    go_enter Try.func24, Try.ntmps24
    go_wp2
    repeat (go_quiet (fail); try go_wp2)
    go_ret
    exact ⟨by first | rfl | (simp; done) | (simp [*]; done), by repeat (first | exact Drawn0.refl _ | apply Drawn0.step)⟩
  · rw [if_neg c3] at H
    have c3b0 : ((l0.length : Int) == 0) = false := beq_eq_false_iff_ne.mpr c3
    have c3b1 : ((l0.length : Int) != 0) = true := bne_iff_ne.mpr c3
    have c3b2 : ¬ (l0 = []) := fun h_ => c3 (by rw [h_]; rfl)
    obtain ⟨ji4, hji4⟩ : ∃ j_ : Int, (wrap64 ((l0.length : Int) - 1)) = j_ := ⟨_, rfl⟩
    replace H : (if 0 ≤ (ji4) then (if (ji4) < (l0.length : Int) then (some (decide ((wrap64 (((rd_T39 l0 (ji4)).f0) + ((rd_T39 l0 (ji4)).f1))) ≤ a1))) else (none)) else (none)) = some r := by first | (rw [hji4] at H; exact H) | (simp only [hji4] at H ⊢; exact H)
    have hji4w : (IntKind.i64.wrap ((l0.length : Int) - 1)) = ji4 := (i64_w _).trans hji4
    by_cases c5 : 0 ≤ (ji4)
    · rw [if_pos c5] at H
      have c5b0 : decide (0 ≤ (ji4)) = true := decide_eq_true c5
      clear c5
      by_cases c6 : (ji4) < (l0.length : Int)
      · rw [if_pos c6] at H
        have c6b0 : decide ((ji4) < (l0.length : Int)) = true := decide_eq_true c6
        clear c6
        obtain rfl := Option.some.inj H
        have p164 : 0 ≤ ((ji4) : Int) := of_decide_eq_true (by with_reducible assumption)
        have q164 : (ji4) < (l0.length : Int) := of_decide_eq_true (by with_reducible assumption)
        obtain ⟨ad164, e164, hx164_0, hx164_1, hx164_2⟩ := at_T39 HR0.out (ji4) p164 q164
        cases e164
        replace p164 := eq_true p164
        replace q164 := eq_true q164
        have p165 : 0 ≤ ((ji4) : Int) := of_decide_eq_true (by with_reducible assumption)
        have q165 : (ji4) < (l0.length : Int) := of_decide_eq_true (by with_reducible assumption)
        obtain ⟨ad165, e165, hx165_0, hx165_1, hx165_2⟩ := at_T39 HR0.out (ji4) p165 q165
        obtain rfl : ad164 = ad165 := (by injection e165)
        replace p165 := eq_true p165
        replace q165 := eq_true q165
        go_enter Try.func24, Try.ntmps24
        go_wp2
        repeat (go_quiet (fail); try go_wp2)
        go_ret
        exact ⟨by first | rfl | (simp; done) | (simp only [← hji4] <;> (first | rfl | simp)) | (simp [*]; done), by repeat (first | exact Drawn0.refl _ | apply Drawn0.step)⟩
      · rw [if_neg c6] at H
        exact absurd H (by simp)
    · rw [if_neg c5] at H
      exact absurd H (by simp)

/-! ### ferruleref9_inside: function 39 -/
def ferruleref9_inside.f (a0 : Int) (a1 : Int) : Option (Bool) := if a0 ≥ a1 then (some (decide (a0 ≤ 1073741824))) else (some false)
set_option maxHeartbeats 8000000 in
set_option maxRecDepth 100000 in
theorem ferruleref9_inside.calls (a0 : Int) (a1 : Int) (r : Bool) (w : World) (h : ferruleref9_inside.f a0 a1 = some r) :
    Calls Try.prog 39 #[.int .i64 a0, .int .i64 a1] w fun e w' => e = .returned (.bool r) ∧ Drawn0 w w' := by
  have H : (if a0 ≥ a1 then (some (decide (a0 ≤ 1073741824))) else (some false)) = some r := h
  clear h
  by_cases c3 : a0 ≥ a1
  · rw [if_pos c3] at H
    have c3b0 : decide (a1 ≤ a0) = true := decide_eq_true c3
    clear c3
    obtain rfl := Option.some.inj H
    go_enter Try.func39, Try.ntmps39
    go_wp2
    go_ret
    exact ⟨by first | rfl | (simp; done) | (simp [*]; done), by repeat (first | exact Drawn0.refl _ | apply Drawn0.step)⟩
  · rw [if_neg c3] at H
    have c3b0 : decide (a1 ≤ a0) = false := decide_eq_false c3
    clear c3
    obtain rfl := Option.some.inj H
    go_enter Try.func39, Try.ntmps39
    go_wp2
    go_ret
    exact ⟨by first | rfl | (simp; done) | (simp [*]; done), by repeat (first | exact Drawn0.refl _ | apply Drawn0.step)⟩

/-! ### ferruleref9_Form: function 34 -/
mutual
def ferruleref9_Form.l0 : Nat → List (S39) → Int → Option (Bool)
  | 0, _, _ => none
  | k + 1, x0, x3 => if x3 < (x0.length : Int) then (if 0 ≤ x3 then ((ferruleref9_inside.f ((rd_T39 x0 x3).f0) 0).bind fun t167 => (if t167 = true then ((ferruleref9_inside.f ((rd_T39 x0 x3).f2) 0).bind fun t169 => (if t169 = true then ((ferruleref9_inside.f ((rd_T39 x0 x3).f1) 1).bind fun t171 => (ferruleref9_Form.j1 k x0 x3 (!t171))) else (ferruleref9_Form.j1 k x0 x3 true))) else (ferruleref9_Form.j1 k x0 x3 true))) else (none)) else (some true)
def ferruleref9_Form.j1 : Nat → List (S39) → Int → Bool → Option (Bool)
  | 0, _, _, _ => none
  | k + 1, x0, x3, x35 => if x35 = true then (some false) else (if x3 = 0 then (ferruleref9_Form.l0 k x0 (wrap64 (x3 + 1))) else (if 0 ≤ (wrap64 (x3 - 1)) then (if (wrap64 (x3 - 1)) < (x0.length : Int) then (if 0 ≤ x3 then (if x3 < (x0.length : Int) then (if (wrap64 (((rd_T39 x0 (wrap64 (x3 - 1))).f0) + ((rd_T39 x0 (wrap64 (x3 - 1))).f1))) > ((rd_T39 x0 x3).f0) then (some false) else (if (wrap64 (((rd_T39 x0 (wrap64 (x3 - 1))).f0) + ((rd_T39 x0 (wrap64 (x3 - 1))).f1))) = ((rd_T39 x0 x3).f0) then (if (wrap64 (((rd_T39 x0 (wrap64 (x3 - 1))).f2) + ((rd_T39 x0 (wrap64 (x3 - 1))).f1))) = ((rd_T39 x0 x3).f2) then (some false) else (ferruleref9_Form.l0 k x0 (wrap64 (x3 + 1)))) else (ferruleref9_Form.l0 k x0 (wrap64 (x3 + 1))))) else (none)) else (none)) else (none)) else (none)))
end
def ferruleref9_Form.f (k : Nat) (l0 : List (S39)) : Option (Bool) := ferruleref9_Form.l0 k l0 0
theorem ferruleref9_Form.mono_l : ∀ k, (∀ y0 y1, LeO (ferruleref9_Form.l0 k y0 y1) (ferruleref9_Form.l0 (k + 1) y0 y1)) ∧ (∀ y0 y1 y2, LeO (ferruleref9_Form.j1 k y0 y1 y2) (ferruleref9_Form.j1 (k + 1) y0 y1 y2))
  | 0 => ⟨fun _ _ r h => by simp [ferruleref9_Form.l0] at h, fun _ _ _ r h => by simp [ferruleref9_Form.j1] at h⟩
  | k + 1 => by
    obtain ⟨ih0, ih1⟩ := ferruleref9_Form.mono_l k
    refine ⟨?_, ?_⟩
    · intro y0 y1
      unfold ferruleref9_Form.l0
      repeat' first
      | (with_reducible exact ih0 _ _)
      | (with_reducible exact ih1 _ _ _)
      | (with_reducible exact LeO.refl _)
      | (with_reducible exact LeO.none _)
      | (with_reducible refine LeO.ite ?_ ?_)
      | (with_reducible refine LeO.bind ?_ (fun _ => ?_))
      | exact ih0 _ _
      | exact ih1 _ _ _
      | exact LeO.none _
      | refine LeO.ite ?_ ?_
      | refine LeO.bind ?_ (fun _ => ?_)
    · intro y0 y1 y2
      unfold ferruleref9_Form.j1
      repeat' first
      | (with_reducible exact ih0 _ _)
      | (with_reducible exact ih1 _ _ _)
      | (with_reducible exact LeO.refl _)
      | (with_reducible exact LeO.none _)
      | (with_reducible refine LeO.ite ?_ ?_)
      | (with_reducible refine LeO.bind ?_ (fun _ => ?_))
      | exact ih0 _ _
      | exact ih1 _ _ _
      | exact LeO.none _
      | refine LeO.ite ?_ ?_
      | refine LeO.bind ?_ (fun _ => ?_)
theorem ferruleref9_Form.mono : ∀ a0 k, LeO (ferruleref9_Form.f k a0) (ferruleref9_Form.f (k + 1) a0) := by
  intro a0 k
  obtain ⟨ih0, ih1⟩ := ferruleref9_Form.mono_l k
  unfold ferruleref9_Form.f
  repeat' first
      | (with_reducible exact ih0 _ _)
      | (with_reducible exact ih1 _ _ _)
      | (with_reducible exact LeO.refl _)
      | (with_reducible exact LeO.none _)
      | (with_reducible refine LeO.ite ?_ ?_)
      | (with_reducible refine LeO.bind ?_ (fun _ => ?_))
      | exact ih0 _ _
      | exact ih1 _ _ _
      | exact LeO.none _
      | refine LeO.ite ?_ ?_
      | refine LeO.bind ?_ (fun _ => ?_)
set_option maxHeartbeats 8000000 in
set_option maxRecDepth 100000 in
theorem ferruleref9_Form.calls (k : Nat) (A0 : Option Addr) (c0 : Nat) (l0 : List (S39)) (r : Bool) (w : World) (hr0 : Kd.C k39 w A0 l0.length l0) (hc0 : l0.length ≤ c0) (h : ferruleref9_Form.f k l0 = some r) :
    Calls Try.prog 34 #[.slice A0 l0.length c0] w fun e w' => e = .returned (.bool r) ∧ Below w.heap.size w w' := by
  have hu39 := Try.underlying39
  have HR0 := Aside0.mk hr0
  have HC0 := Aside0.mk hc0
  clear hr0 hc0
  have HB := Aside0.mk (Below.refl w.heap.size w)
  have H : (ferruleref9_Form.l0 k l0 0) = some r := h
  clear h
  have H' := Aside0.mk H
  clear H
  go_enter Try.func34, Try.ntmps34
  go_wp2
  repeat (go_quiet (fail); try go_wp2)
  go_loopg [3] k (fun kq v3 w' => ∃ (x3_1 : Int), v3 = .int .i64 x3_1 ∧ Aside0 (ferruleref9_Form.l0 kq l0 x3_1 = some r) ∧ Aside0 (kq ≤ k) ∧ Aside0 (Below w.heap.size w w'))
  case atStart => exact ⟨(0), (by first | rfl | (simp; done) | (simp [*]; done)), H', ⟨Nat.le_refl _⟩, ⟨by repeat with_reducible first | exact HB.out | apply below_alloc | apply pw_below_drewN | apply below_drew1⟩⟩
  case round =>
    clear H'
    obtain ⟨x3_1, rfl, HA, HK1, HB⟩ := hrel
    cases gk with
    | zero => exact absurd HA.out (by simp [ferruleref9_Form.l0])
    | succ k1 =>
      have H := HA.out
      clear HA
      simp only [ferruleref9_Form.l0] at H
      by_cases c2 : x3_1 < (l0.length : Int)
      · rw [if_pos c2] at H
        have c2b0 : decide (x3_1 < (l0.length : Int)) = true := decide_eq_true c2
        clear c2
        have HC3 := Aside0.mk H
        clear H
        go_upto_region 4 with (fail)
        repeat (go_quiet (fail); go_upto_region 4 with (fail))
        go_cut [35] (fun v35 wc => ∃ (kq : Nat) (x35_2 : Bool), v35 = .bool x35_2 ∧ Aside0 (ferruleref9_Form.j1 kq l0 x3_1 x35_2 = some r) ∧ Aside0 (kq ≤ k1) ∧ Aside0 (Below w.heap.size w wc))
        case first =>
          have H := HC3.out
          clear HC3
          by_cases c4 : 0 ≤ x3_1
          · rw [if_pos c4] at H
            have c4b0 : decide (0 ≤ x3_1) = true := decide_eq_true c4
            clear c4
            (first | rw [c4b0] | (simp only [i64_w, i32_w]; rw [c4b0]) | skip)
            replace H := Option.bind_eq_some_iff.mp H
            obtain ⟨t167, A50, H⟩ := H
            replace H : (if t167 = true then ((ferruleref9_inside.f ((rd_T39 l0 x3_1).f2) 0).bind fun t169 => (if t169 = true then ((ferruleref9_inside.f ((rd_T39 l0 x3_1).f1) 1).bind fun t171 => (ferruleref9_Form.j1 k1 l0 x3_1 (!t171))) else (ferruleref9_Form.j1 k1 l0 x3_1 true))) else (ferruleref9_Form.j1 k1 l0 x3_1 true)) = some r := H
            have A5 := Aside0.mk A50
            clear A50
            by_cases c6 : t167 = true
            · subst c6
              have H1 : ((ferruleref9_inside.f ((rd_T39 l0 x3_1).f2) 0).bind fun t169 => (if t169 = true then ((ferruleref9_inside.f ((rd_T39 l0 x3_1).f1) 1).bind fun t171 => (ferruleref9_Form.j1 k1 l0 x3_1 (!t171))) else (ferruleref9_Form.j1 k1 l0 x3_1 true))) = some r := by rw [if_pos rfl] at H; exact H
              clear H
              have H := H1
              clear H1
              replace H := Option.bind_eq_some_iff.mp H
              obtain ⟨t169, A70, H⟩ := H
              replace H : (if t169 = true then ((ferruleref9_inside.f ((rd_T39 l0 x3_1).f1) 1).bind fun t171 => (ferruleref9_Form.j1 k1 l0 x3_1 (!t171))) else (ferruleref9_Form.j1 k1 l0 x3_1 true)) = some r := H
              have A7 := Aside0.mk A70
              clear A70
              by_cases c8 : t169 = true
              · subst c8
                have H1 : ((ferruleref9_inside.f ((rd_T39 l0 x3_1).f1) 1).bind fun t171 => (ferruleref9_Form.j1 k1 l0 x3_1 (!t171))) = some r := by rw [if_pos rfl] at H; exact H
                clear H
                have H := H1
                clear H1
                replace H := Option.bind_eq_some_iff.mp H
                obtain ⟨t171, A90, H⟩ := H
                replace H : (ferruleref9_Form.j1 k1 l0 x3_1 (!t171)) = some r := H
                have A9 := Aside0.mk A90
                clear A90
                have H' := Aside0.mk H
                clear H
                have p166 : 0 ≤ (x3_1 : Int) := of_decide_eq_true (by with_reducible assumption)
                have q166 : x3_1 < (l0.length : Int) := of_decide_eq_true (by with_reducible assumption)
                obtain ⟨ad166, e166, hx166_0, hx166_1, hx166_2⟩ := at_T39 HR0.out x3_1 p166 q166
                cases e166
                replace hx166_0 := (HB.out.cell (World.block_lt_of_cell? w _ hx166_0)).trans hx166_0
                replace hx166_1 := (HB.out.cell (World.block_lt_of_cell? w _ hx166_1)).trans hx166_1
                replace hx166_2 := (HB.out.cell (World.block_lt_of_cell? w _ hx166_2)).trans hx166_2
                replace p166 := eq_true p166
                replace q166 := eq_true q166
                go_wp2_with (first | (go_at_call 39; (with_reducible refine (ferruleref9_inside.calls ((rd_T39 l0 x3_1).f0) 0 true _ A5.out).mono ?_); rintro e w' ⟨rfl, ⟨nd, rfl⟩⟩; (try first | exact ⟨rfl, _, World.drewN_drewN _ _ _⟩ | exact ⟨rfl, _, Eq.trans (World.drewN_drewN _ _ _) (congrArg (World.drewN _) (Nat.add_assoc _ _ _))⟩); have p168 : 0 ≤ (x3_1 : Int) := of_decide_eq_true (by with_reducible assumption); have q168 : x3_1 < (l0.length : Int) := of_decide_eq_true (by with_reducible assumption); obtain ⟨ad168, e168, hx168_0, hx168_1, hx168_2⟩ := at_T39 HR0.out x3_1 p168 q168; obtain rfl : ad166 = ad168 := (by injection e168); replace hx168_0 := (HB.out.cell (World.block_lt_of_cell? w _ hx168_0)).trans hx168_0; replace hx168_1 := (HB.out.cell (World.block_lt_of_cell? w _ hx168_1)).trans hx168_1; replace hx168_2 := (HB.out.cell (World.block_lt_of_cell? w _ hx168_2)).trans hx168_2; replace p168 := eq_true p168; replace q168 := eq_true q168) | (go_at_call 39; (with_reducible refine (ferruleref9_inside.calls ((rd_T39 l0 x3_1).f2) 0 true _ A7.out).mono ?_); rintro e w' ⟨rfl, ⟨nd, rfl⟩⟩; (try first | exact ⟨rfl, _, World.drewN_drewN _ _ _⟩ | exact ⟨rfl, _, Eq.trans (World.drewN_drewN _ _ _) (congrArg (World.drewN _) (Nat.add_assoc _ _ _))⟩); have p170 : 0 ≤ (x3_1 : Int) := of_decide_eq_true (by with_reducible assumption); have q170 : x3_1 < (l0.length : Int) := of_decide_eq_true (by with_reducible assumption); obtain ⟨ad170, e170, hx170_0, hx170_1, hx170_2⟩ := at_T39 HR0.out x3_1 p170 q170; obtain rfl : ad166 = ad170 := (by injection e170); replace hx170_0 := (HB.out.cell (World.block_lt_of_cell? w _ hx170_0)).trans hx170_0; replace hx170_1 := (HB.out.cell (World.block_lt_of_cell? w _ hx170_1)).trans hx170_1; replace hx170_2 := (HB.out.cell (World.block_lt_of_cell? w _ hx170_2)).trans hx170_2; replace p170 := eq_true p170; replace q170 := eq_true q170) | (go_at_call 39; (with_reducible refine (ferruleref9_inside.calls ((rd_T39 l0 x3_1).f1) 1 t171 _ A9.out).mono ?_); rintro e w' ⟨rfl, ⟨nd, rfl⟩⟩; (try first | exact ⟨rfl, _, World.drewN_drewN _ _ _⟩ | exact ⟨rfl, _, Eq.trans (World.drewN_drewN _ _ _) (congrArg (World.drewN _) (Nat.add_assoc _ _ _))⟩)))
                repeat (go_quiet (first | (go_at_call 39; (with_reducible refine (ferruleref9_inside.calls ((rd_T39 l0 x3_1).f0) 0 true _ A5.out).mono ?_); rintro e w' ⟨rfl, ⟨nd, rfl⟩⟩; (try first | exact ⟨rfl, _, World.drewN_drewN _ _ _⟩ | exact ⟨rfl, _, Eq.trans (World.drewN_drewN _ _ _) (congrArg (World.drewN _) (Nat.add_assoc _ _ _))⟩); have p168 : 0 ≤ (x3_1 : Int) := of_decide_eq_true (by with_reducible assumption); have q168 : x3_1 < (l0.length : Int) := of_decide_eq_true (by with_reducible assumption); obtain ⟨ad168, e168, hx168_0, hx168_1, hx168_2⟩ := at_T39 HR0.out x3_1 p168 q168; obtain rfl : ad166 = ad168 := (by injection e168); replace hx168_0 := (HB.out.cell (World.block_lt_of_cell? w _ hx168_0)).trans hx168_0; replace hx168_1 := (HB.out.cell (World.block_lt_of_cell? w _ hx168_1)).trans hx168_1; replace hx168_2 := (HB.out.cell (World.block_lt_of_cell? w _ hx168_2)).trans hx168_2; replace p168 := eq_true p168; replace q168 := eq_true q168) | (go_at_call 39; (with_reducible refine (ferruleref9_inside.calls ((rd_T39 l0 x3_1).f2) 0 true _ A7.out).mono ?_); rintro e w' ⟨rfl, ⟨nd, rfl⟩⟩; (try first | exact ⟨rfl, _, World.drewN_drewN _ _ _⟩ | exact ⟨rfl, _, Eq.trans (World.drewN_drewN _ _ _) (congrArg (World.drewN _) (Nat.add_assoc _ _ _))⟩); have p170 : 0 ≤ (x3_1 : Int) := of_decide_eq_true (by with_reducible assumption); have q170 : x3_1 < (l0.length : Int) := of_decide_eq_true (by with_reducible assumption); obtain ⟨ad170, e170, hx170_0, hx170_1, hx170_2⟩ := at_T39 HR0.out x3_1 p170 q170; obtain rfl : ad166 = ad170 := (by injection e170); replace hx170_0 := (HB.out.cell (World.block_lt_of_cell? w _ hx170_0)).trans hx170_0; replace hx170_1 := (HB.out.cell (World.block_lt_of_cell? w _ hx170_1)).trans hx170_1; replace hx170_2 := (HB.out.cell (World.block_lt_of_cell? w _ hx170_2)).trans hx170_2; replace p170 := eq_true p170; replace q170 := eq_true q170) | (go_at_call 39; (with_reducible refine (ferruleref9_inside.calls ((rd_T39 l0 x3_1).f1) 1 t171 _ A9.out).mono ?_); rintro e w' ⟨rfl, ⟨nd, rfl⟩⟩; (try first | exact ⟨rfl, _, World.drewN_drewN _ _ _⟩ | exact ⟨rfl, _, Eq.trans (World.drewN_drewN _ _ _) (congrArg (World.drewN _) (Nat.add_assoc _ _ _))⟩))); try go_wp2_with (first | (go_at_call 39; (with_reducible refine (ferruleref9_inside.calls ((rd_T39 l0 x3_1).f0) 0 true _ A5.out).mono ?_); rintro e w' ⟨rfl, ⟨nd, rfl⟩⟩; (try first | exact ⟨rfl, _, World.drewN_drewN _ _ _⟩ | exact ⟨rfl, _, Eq.trans (World.drewN_drewN _ _ _) (congrArg (World.drewN _) (Nat.add_assoc _ _ _))⟩); have p168 : 0 ≤ (x3_1 : Int) := of_decide_eq_true (by with_reducible assumption); have q168 : x3_1 < (l0.length : Int) := of_decide_eq_true (by with_reducible assumption); obtain ⟨ad168, e168, hx168_0, hx168_1, hx168_2⟩ := at_T39 HR0.out x3_1 p168 q168; obtain rfl : ad166 = ad168 := (by injection e168); replace hx168_0 := (HB.out.cell (World.block_lt_of_cell? w _ hx168_0)).trans hx168_0; replace hx168_1 := (HB.out.cell (World.block_lt_of_cell? w _ hx168_1)).trans hx168_1; replace hx168_2 := (HB.out.cell (World.block_lt_of_cell? w _ hx168_2)).trans hx168_2; replace p168 := eq_true p168; replace q168 := eq_true q168) | (go_at_call 39; (with_reducible refine (ferruleref9_inside.calls ((rd_T39 l0 x3_1).f2) 0 true _ A7.out).mono ?_); rintro e w' ⟨rfl, ⟨nd, rfl⟩⟩; (try first | exact ⟨rfl, _, World.drewN_drewN _ _ _⟩ | exact ⟨rfl, _, Eq.trans (World.drewN_drewN _ _ _) (congrArg (World.drewN _) (Nat.add_assoc _ _ _))⟩); have p170 : 0 ≤ (x3_1 : Int) := of_decide_eq_true (by with_reducible assumption); have q170 : x3_1 < (l0.length : Int) := of_decide_eq_true (by with_reducible assumption); obtain ⟨ad170, e170, hx170_0, hx170_1, hx170_2⟩ := at_T39 HR0.out x3_1 p170 q170; obtain rfl : ad166 = ad170 := (by injection e170); replace hx170_0 := (HB.out.cell (World.block_lt_of_cell? w _ hx170_0)).trans hx170_0; replace hx170_1 := (HB.out.cell (World.block_lt_of_cell? w _ hx170_1)).trans hx170_1; replace hx170_2 := (HB.out.cell (World.block_lt_of_cell? w _ hx170_2)).trans hx170_2; replace p170 := eq_true p170; replace q170 := eq_true q170) | (go_at_call 39; (with_reducible refine (ferruleref9_inside.calls ((rd_T39 l0 x3_1).f1) 1 t171 _ A9.out).mono ?_); rintro e w' ⟨rfl, ⟨nd, rfl⟩⟩; (try first | exact ⟨rfl, _, World.drewN_drewN _ _ _⟩ | exact ⟨rfl, _, Eq.trans (World.drewN_drewN _ _ _) (congrArg (World.drewN _) (Nat.add_assoc _ _ _))⟩))))
                go_meet
                case rel => exact ⟨_, (!t171), (by first | rfl | (simp; done) | (simp [*]; done)), H', ⟨by have := HK1.out; first | omega | exact Nat.le_refl _⟩, ⟨by repeat with_reducible first | exact HB.out | apply below_alloc | apply pw_below_drewN | apply below_drew1⟩⟩
              · replace c8 := Bool.eq_false_iff.mpr c8
                subst c8
                have H1 : (ferruleref9_Form.j1 k1 l0 x3_1 true) = some r := by rw [if_neg (show ¬ (false = true) by decide)] at H; exact H
                clear H
                have H := H1
                clear H1
                have H' := Aside0.mk H
                clear H
                have p166 : 0 ≤ (x3_1 : Int) := of_decide_eq_true (by with_reducible assumption)
                have q166 : x3_1 < (l0.length : Int) := of_decide_eq_true (by with_reducible assumption)
                obtain ⟨ad166, e166, hx166_0, hx166_1, hx166_2⟩ := at_T39 HR0.out x3_1 p166 q166
                cases e166
                replace hx166_0 := (HB.out.cell (World.block_lt_of_cell? w _ hx166_0)).trans hx166_0
                replace hx166_1 := (HB.out.cell (World.block_lt_of_cell? w _ hx166_1)).trans hx166_1
                replace hx166_2 := (HB.out.cell (World.block_lt_of_cell? w _ hx166_2)).trans hx166_2
                replace p166 := eq_true p166
                replace q166 := eq_true q166
                go_wp2_with (first | (go_at_call 39; (with_reducible refine (ferruleref9_inside.calls ((rd_T39 l0 x3_1).f0) 0 true _ A5.out).mono ?_); rintro e w' ⟨rfl, ⟨nd, rfl⟩⟩; (try first | exact ⟨rfl, _, World.drewN_drewN _ _ _⟩ | exact ⟨rfl, _, Eq.trans (World.drewN_drewN _ _ _) (congrArg (World.drewN _) (Nat.add_assoc _ _ _))⟩); have p168 : 0 ≤ (x3_1 : Int) := of_decide_eq_true (by with_reducible assumption); have q168 : x3_1 < (l0.length : Int) := of_decide_eq_true (by with_reducible assumption); obtain ⟨ad168, e168, hx168_0, hx168_1, hx168_2⟩ := at_T39 HR0.out x3_1 p168 q168; obtain rfl : ad166 = ad168 := (by injection e168); replace hx168_0 := (HB.out.cell (World.block_lt_of_cell? w _ hx168_0)).trans hx168_0; replace hx168_1 := (HB.out.cell (World.block_lt_of_cell? w _ hx168_1)).trans hx168_1; replace hx168_2 := (HB.out.cell (World.block_lt_of_cell? w _ hx168_2)).trans hx168_2; replace p168 := eq_true p168; replace q168 := eq_true q168) | (go_at_call 39; (with_reducible refine (ferruleref9_inside.calls ((rd_T39 l0 x3_1).f2) 0 false _ A7.out).mono ?_); rintro e w' ⟨rfl, ⟨nd, rfl⟩⟩; (try first | exact ⟨rfl, _, World.drewN_drewN _ _ _⟩ | exact ⟨rfl, _, Eq.trans (World.drewN_drewN _ _ _) (congrArg (World.drewN _) (Nat.add_assoc _ _ _))⟩)))
                repeat (go_quiet (first | (go_at_call 39; (with_reducible refine (ferruleref9_inside.calls ((rd_T39 l0 x3_1).f0) 0 true _ A5.out).mono ?_); rintro e w' ⟨rfl, ⟨nd, rfl⟩⟩; (try first | exact ⟨rfl, _, World.drewN_drewN _ _ _⟩ | exact ⟨rfl, _, Eq.trans (World.drewN_drewN _ _ _) (congrArg (World.drewN _) (Nat.add_assoc _ _ _))⟩); have p168 : 0 ≤ (x3_1 : Int) := of_decide_eq_true (by with_reducible assumption); have q168 : x3_1 < (l0.length : Int) := of_decide_eq_true (by with_reducible assumption); obtain ⟨ad168, e168, hx168_0, hx168_1, hx168_2⟩ := at_T39 HR0.out x3_1 p168 q168; obtain rfl : ad166 = ad168 := (by injection e168); replace hx168_0 := (HB.out.cell (World.block_lt_of_cell? w _ hx168_0)).trans hx168_0; replace hx168_1 := (HB.out.cell (World.block_lt_of_cell? w _ hx168_1)).trans hx168_1; replace hx168_2 := (HB.out.cell (World.block_lt_of_cell? w _ hx168_2)).trans hx168_2; replace p168 := eq_true p168; replace q168 := eq_true q168) | (go_at_call 39; (with_reducible refine (ferruleref9_inside.calls ((rd_T39 l0 x3_1).f2) 0 false _ A7.out).mono ?_); rintro e w' ⟨rfl, ⟨nd, rfl⟩⟩; (try first | exact ⟨rfl, _, World.drewN_drewN _ _ _⟩ | exact ⟨rfl, _, Eq.trans (World.drewN_drewN _ _ _) (congrArg (World.drewN _) (Nat.add_assoc _ _ _))⟩))); try go_wp2_with (first | (go_at_call 39; (with_reducible refine (ferruleref9_inside.calls ((rd_T39 l0 x3_1).f0) 0 true _ A5.out).mono ?_); rintro e w' ⟨rfl, ⟨nd, rfl⟩⟩; (try first | exact ⟨rfl, _, World.drewN_drewN _ _ _⟩ | exact ⟨rfl, _, Eq.trans (World.drewN_drewN _ _ _) (congrArg (World.drewN _) (Nat.add_assoc _ _ _))⟩); have p168 : 0 ≤ (x3_1 : Int) := of_decide_eq_true (by with_reducible assumption); have q168 : x3_1 < (l0.length : Int) := of_decide_eq_true (by with_reducible assumption); obtain ⟨ad168, e168, hx168_0, hx168_1, hx168_2⟩ := at_T39 HR0.out x3_1 p168 q168; obtain rfl : ad166 = ad168 := (by injection e168); replace hx168_0 := (HB.out.cell (World.block_lt_of_cell? w _ hx168_0)).trans hx168_0; replace hx168_1 := (HB.out.cell (World.block_lt_of_cell? w _ hx168_1)).trans hx168_1; replace hx168_2 := (HB.out.cell (World.block_lt_of_cell? w _ hx168_2)).trans hx168_2; replace p168 := eq_true p168; replace q168 := eq_true q168) | (go_at_call 39; (with_reducible refine (ferruleref9_inside.calls ((rd_T39 l0 x3_1).f2) 0 false _ A7.out).mono ?_); rintro e w' ⟨rfl, ⟨nd, rfl⟩⟩; (try first | exact ⟨rfl, _, World.drewN_drewN _ _ _⟩ | exact ⟨rfl, _, Eq.trans (World.drewN_drewN _ _ _) (congrArg (World.drewN _) (Nat.add_assoc _ _ _))⟩))))
                go_meet
                case rel => exact ⟨_, (true), (by first | rfl | (simp; done) | (simp [*]; done)), H', ⟨by have := HK1.out; first | omega | exact Nat.le_refl _⟩, ⟨by repeat with_reducible first | exact HB.out | apply below_alloc | apply pw_below_drewN | apply below_drew1⟩⟩
            · replace c6 := Bool.eq_false_iff.mpr c6
              subst c6
              have H1 : (ferruleref9_Form.j1 k1 l0 x3_1 true) = some r := by rw [if_neg (show ¬ (false = true) by decide)] at H; exact H
              clear H
              have H := H1
              clear H1
              have H' := Aside0.mk H
              clear H
              have p166 : 0 ≤ (x3_1 : Int) := of_decide_eq_true (by with_reducible assumption)
              have q166 : x3_1 < (l0.length : Int) := of_decide_eq_true (by with_reducible assumption)
              obtain ⟨ad166, e166, hx166_0, hx166_1, hx166_2⟩ := at_T39 HR0.out x3_1 p166 q166
              cases e166
              replace hx166_0 := (HB.out.cell (World.block_lt_of_cell? w _ hx166_0)).trans hx166_0
              replace hx166_1 := (HB.out.cell (World.block_lt_of_cell? w _ hx166_1)).trans hx166_1
              replace hx166_2 := (HB.out.cell (World.block_lt_of_cell? w _ hx166_2)).trans hx166_2
              replace p166 := eq_true p166
              replace q166 := eq_true q166
              go_wp2_with (first | (go_at_call 39; (with_reducible refine (ferruleref9_inside.calls ((rd_T39 l0 x3_1).f0) 0 false _ A5.out).mono ?_); rintro e w' ⟨rfl, ⟨nd, rfl⟩⟩; (try first | exact ⟨rfl, _, World.drewN_drewN _ _ _⟩ | exact ⟨rfl, _, Eq.trans (World.drewN_drewN _ _ _) (congrArg (World.drewN _) (Nat.add_assoc _ _ _))⟩)))
              repeat (go_quiet (first | (go_at_call 39; (with_reducible refine (ferruleref9_inside.calls ((rd_T39 l0 x3_1).f0) 0 false _ A5.out).mono ?_); rintro e w' ⟨rfl, ⟨nd, rfl⟩⟩; (try first | exact ⟨rfl, _, World.drewN_drewN _ _ _⟩ | exact ⟨rfl, _, Eq.trans (World.drewN_drewN _ _ _) (congrArg (World.drewN _) (Nat.add_assoc _ _ _))⟩))); try go_wp2_with (first | (go_at_call 39; (with_reducible refine (ferruleref9_inside.calls ((rd_T39 l0 x3_1).f0) 0 false _ A5.out).mono ?_); rintro e w' ⟨rfl, ⟨nd, rfl⟩⟩; (try first | exact ⟨rfl, _, World.drewN_drewN _ _ _⟩ | exact ⟨rfl, _, Eq.trans (World.drewN_drewN _ _ _) (congrArg (World.drewN _) (Nat.add_assoc _ _ _))⟩))))
              go_meet
              case rel => exact ⟨_, (true), (by first | rfl | (simp; done) | (simp [*]; done)), H', ⟨by have := HK1.out; first | omega | exact Nat.le_refl _⟩, ⟨by repeat with_reducible first | exact HB.out | apply below_alloc | apply pw_below_drewN | apply below_drew1⟩⟩
          · rw [if_neg c4] at H
            exact absurd H (by simp)
        case rest =>
          clear HC3
          try clear p1
          try clear q1
          try clear hx1
          try clear c2
          try clear c2b0
          try clear p2
          try clear c3
          try clear c4
          try clear c4b0
          try clear c6
          try clear c8
          try clear hx166_0
          try clear hx166_1
          try clear hx166_2
          try clear hx168_0
          try clear hx168_1
          try clear hx168_2
          try clear hx170_0
          try clear hx170_1
          try clear hx170_2
          try clear p166
          try clear p168
          try clear p170
          try clear q166
          try clear q168
          try clear q170
          obtain ⟨kq, x35_2, rfl, HA, HJ2, HB⟩ := hcut
          cases kq with
          | zero => exact absurd HA.out (by simp [ferruleref9_Form.j1])
          | succ kj2 =>
            have H := HA.out
            clear HA
            simp only [ferruleref9_Form.j1] at H
            by_cases c10 : x35_2 = true
            · subst c10
              have H1 : (some false) = some r := by rw [if_pos rfl] at H; exact H
              clear H
              have H := H1
              clear H1
              obtain rfl := Option.some.inj H
              go_wp2
              repeat (go_quiet (fail); try go_wp2)
              go_ret
              exact ⟨by first | rfl | (simp [errW_none, errW_some] <;> rfl) | (simp [*, errW_none, errW_some] <;> rfl), by repeat with_reducible first | exact HB.out | apply below_alloc | apply pw_below_drewN | apply below_drew1⟩
            · replace c10 := Bool.eq_false_iff.mpr c10
              subst c10
              have H1 : (if x3_1 = 0 then (ferruleref9_Form.l0 kj2 l0 (wrap64 (x3_1 + 1))) else (if 0 ≤ (wrap64 (x3_1 - 1)) then (if (wrap64 (x3_1 - 1)) < (l0.length : Int) then (if 0 ≤ x3_1 then (if x3_1 < (l0.length : Int) then (if (wrap64 (((rd_T39 l0 (wrap64 (x3_1 - 1))).f0) + ((rd_T39 l0 (wrap64 (x3_1 - 1))).f1))) > ((rd_T39 l0 x3_1).f0) then (some false) else (if (wrap64 (((rd_T39 l0 (wrap64 (x3_1 - 1))).f0) + ((rd_T39 l0 (wrap64 (x3_1 - 1))).f1))) = ((rd_T39 l0 x3_1).f0) then (if (wrap64 (((rd_T39 l0 (wrap64 (x3_1 - 1))).f2) + ((rd_T39 l0 (wrap64 (x3_1 - 1))).f1))) = ((rd_T39 l0 x3_1).f2) then (some false) else (ferruleref9_Form.l0 kj2 l0 (wrap64 (x3_1 + 1)))) else (ferruleref9_Form.l0 kj2 l0 (wrap64 (x3_1 + 1))))) else (none)) else (none)) else (none)) else (none))) = some r := by rw [if_neg (show ¬ (false = true) by decide)] at H; exact H
              clear H
              have H := H1
              clear H1
              by_cases c11 : x3_1 = 0
              · rw [if_pos c11] at H
                have c11b0 : (x3_1 == 0) = true := beq_iff_eq.mpr c11
                have c11b1 : (x3_1 != 0) = false := bne_eq_false_iff_eq.mpr c11
                clear c11
                have H' := Aside0.mk H
                clear H
                go_wp2
                repeat (go_quiet (fail); try go_wp2)
                go_roundg kj2
                case measure => have := HK1.out; have := HJ2.out; omega
                case rel => exact ⟨(wrap64 (x3_1 + 1)), (by first | rfl | (simp; done) | (simp [*]; done)), H', ⟨by have := HK1.out; have := HJ2.out; omega⟩, ⟨by repeat with_reducible first | exact HB.out | apply below_alloc | apply pw_below_drewN | apply below_drew1⟩⟩
              · rw [if_neg c11] at H
                have c11b0 : (x3_1 == 0) = false := beq_eq_false_iff_ne.mpr c11
                have c11b1 : (x3_1 != 0) = true := bne_iff_ne.mpr c11
                obtain ⟨ji12, hji12⟩ : ∃ j_ : Int, (wrap64 (x3_1 - 1)) = j_ := ⟨_, rfl⟩
                replace H : (if 0 ≤ (ji12) then (if (ji12) < (l0.length : Int) then (if 0 ≤ x3_1 then (if x3_1 < (l0.length : Int) then (if (wrap64 (((rd_T39 l0 (ji12)).f0) + ((rd_T39 l0 (ji12)).f1))) > ((rd_T39 l0 x3_1).f0) then (some false) else (if (wrap64 (((rd_T39 l0 (ji12)).f0) + ((rd_T39 l0 (ji12)).f1))) = ((rd_T39 l0 x3_1).f0) then (if (wrap64 (((rd_T39 l0 (ji12)).f2) + ((rd_T39 l0 (ji12)).f1))) = ((rd_T39 l0 x3_1).f2) then (some false) else (ferruleref9_Form.l0 kj2 l0 (wrap64 (x3_1 + 1)))) else (ferruleref9_Form.l0 kj2 l0 (wrap64 (x3_1 + 1))))) else (none)) else (none)) else (none)) else (none)) = some r := by first | (rw [hji12] at H; exact H) | (simp only [hji12] at H ⊢; exact H)
                have hji12w : (IntKind.i64.wrap (x3_1 - 1)) = ji12 := (i64_w _).trans hji12
                by_cases c13 : 0 ≤ (ji12)
                · rw [if_pos c13] at H
                  have c13b0 : decide (0 ≤ (ji12)) = true := decide_eq_true c13
                  clear c13
                  by_cases c14 : (ji12) < (l0.length : Int)
                  · rw [if_pos c14] at H
                    have c14b0 : decide ((ji12) < (l0.length : Int)) = true := decide_eq_true c14
                    clear c14
                    by_cases c15 : 0 ≤ x3_1
                    · rw [if_pos c15] at H
                      have c15b0 : decide (0 ≤ x3_1) = true := decide_eq_true c15
                      clear c15
                      by_cases c16 : x3_1 < (l0.length : Int)
                      · rw [if_pos c16] at H
                        have c16b0 : decide (x3_1 < (l0.length : Int)) = true := decide_eq_true c16
                        clear c16
                        by_cases c17 : (wrap64 (((rd_T39 l0 (ji12)).f0) + ((rd_T39 l0 (ji12)).f1))) > ((rd_T39 l0 x3_1).f0)
                        · rw [if_pos c17] at H
                          have c17b0 : decide (((rd_T39 l0 x3_1).f0) < (wrap64 (((rd_T39 l0 (ji12)).f0) + ((rd_T39 l0 (ji12)).f1)))) = true := decide_eq_true c17
                          clear c17
                          obtain rfl := Option.some.inj H
                          have p172 : 0 ≤ ((ji12) : Int) := of_decide_eq_true (by with_reducible assumption)
                          have q172 : (ji12) < (l0.length : Int) := of_decide_eq_true (by with_reducible assumption)
                          obtain ⟨ad172, e172, hx172_0, hx172_1, hx172_2⟩ := at_T39 HR0.out (ji12) p172 q172
                          cases e172
                          replace hx172_0 := (HB.out.cell (World.block_lt_of_cell? w _ hx172_0)).trans hx172_0
                          replace hx172_1 := (HB.out.cell (World.block_lt_of_cell? w _ hx172_1)).trans hx172_1
                          replace hx172_2 := (HB.out.cell (World.block_lt_of_cell? w _ hx172_2)).trans hx172_2
                          replace p172 := eq_true p172
                          replace q172 := eq_true q172
                          go_wp2_with (first | ((with_reducible refine gate_dst (N := 4) rfl ?_); refine box_event ?hg (N := 4) ?hd (cs := #[.int .i64 0, .int .i64 0, .int .i64 0]) (t := 39) ?hr ?_; (case hd => rfl); (case hg => rfl); (case hr => first | (go_simp; done) | (go_simp; rfl)); intro gb173 hg w18 hbox hb; have n0_ := Aside0.mk (below_step (by repeat with_reducible first | exact HB.out | apply below_alloc | apply pw_below_drewN | apply below_drew1) hb); have n1_ := Aside0.mk (hbox); have n2_ := Aside0.mk ((by rw [hg]; exact (below_size (by repeat with_reducible first | exact HB.out | apply below_alloc | apply pw_below_drewN | apply below_drew1)) : w.heap.size ≤ gb173)); have n3_ := Aside0.mk ((by rw [hg]; exact (below_size (by repeat with_reducible first | exact HB.out | apply below_alloc | apply pw_below_drewN | apply below_drew1)) : w.heap.size ≤ gb173)); clear HB; have HB := n0_; have BK173 := n1_; have GW173 := n2_; have GE173 := n3_; clear n0_ n1_ n2_ n3_; clear hb hbox hg; have hcz19_0 : w18.cell? ⟨gb173, 0, none⟩ = some (.int .i64 0) := (blk_cell BK173.out 0).trans rfl; have hcz19_1 : w18.cell? ⟨gb173, 1, none⟩ = some (.int .i64 0) := (blk_cell BK173.out 1).trans rfl; have hcz19_2 : w18.cell? ⟨gb173, 2, none⟩ = some (.int .i64 0) := (blk_cell BK173.out 2).trans rfl; have hfz19_0 := blk_frozen BK173.out 0; have hfz19_1 := blk_frozen BK173.out 1; have hfz19_2 := blk_frozen BK173.out 2; have p174 : 0 ≤ (x3_1 : Int) := of_decide_eq_true (by with_reducible assumption); have q174 : x3_1 < (l0.length : Int) := of_decide_eq_true (by with_reducible assumption); obtain ⟨ad174, e174, hx174_0, hx174_1, hx174_2⟩ := at_T39 HR0.out x3_1 p174 q174; obtain rfl : ad172 = ad174 := (by injection e174); have hn174_0 : ad172.block ≠ gb173 := Nat.ne_of_lt (Nat.lt_of_lt_of_le (by have := World.block_lt_of_cell? _ _ hx174_0; first | rwa [add_block] at this | exact this) GW173.out); have hn174_1 : ad172.block ≠ gb173 := Nat.ne_of_lt (Nat.lt_of_lt_of_le (by have := World.block_lt_of_cell? _ _ hx174_0; first | rwa [add_block] at this | exact this) GW173.out); have hn174_2 : ad172.block ≠ gb173 := Nat.ne_of_lt (Nat.lt_of_lt_of_le (by have := World.block_lt_of_cell? _ _ hx174_0; first | rwa [add_block] at this | exact this) GW173.out); replace hx174_0 := (HB.out.cell (World.block_lt_of_cell? w _ hx174_0)).trans hx174_0; replace hx174_1 := (HB.out.cell (World.block_lt_of_cell? w _ hx174_1)).trans hx174_1; replace hx174_2 := (HB.out.cell (World.block_lt_of_cell? w _ hx174_2)).trans hx174_2; replace hx174_0 := (cell_far (p := ⟨gb173, 0, none⟩) (by first | (rw [add_block]; exact hn174_0) | exact hn174_0) (.int .i64 ((rd_T39 l0 (ji12)).f0))).trans hx174_0; replace hx174_1 := (cell_far (p := ⟨gb173, 0, none⟩) (by first | (rw [add_block]; exact hn174_0) | exact hn174_0) (.int .i64 ((rd_T39 l0 (ji12)).f0))).trans hx174_1; replace hx174_2 := (cell_far (p := ⟨gb173, 0, none⟩) (by first | (rw [add_block]; exact hn174_0) | exact hn174_0) (.int .i64 ((rd_T39 l0 (ji12)).f0))).trans hx174_2; replace hx174_0 := (cell_far (p := ⟨gb173, 1, none⟩) (by first | (rw [add_block]; exact hn174_1) | exact hn174_1) (.int .i64 ((rd_T39 l0 (ji12)).f1))).trans hx174_0; replace hx174_1 := (cell_far (p := ⟨gb173, 1, none⟩) (by first | (rw [add_block]; exact hn174_1) | exact hn174_1) (.int .i64 ((rd_T39 l0 (ji12)).f1))).trans hx174_1; replace hx174_2 := (cell_far (p := ⟨gb173, 1, none⟩) (by first | (rw [add_block]; exact hn174_1) | exact hn174_1) (.int .i64 ((rd_T39 l0 (ji12)).f1))).trans hx174_2; replace hx174_0 := (cell_far (p := ⟨gb173, 2, none⟩) (by first | (rw [add_block]; exact hn174_2) | exact hn174_2) (.int .i64 ((rd_T39 l0 (ji12)).f2))).trans hx174_0; replace hx174_1 := (cell_far (p := ⟨gb173, 2, none⟩) (by first | (rw [add_block]; exact hn174_2) | exact hn174_2) (.int .i64 ((rd_T39 l0 (ji12)).f2))).trans hx174_1; replace hx174_2 := (cell_far (p := ⟨gb173, 2, none⟩) (by first | (rw [add_block]; exact hn174_2) | exact hn174_2) (.int .i64 ((rd_T39 l0 (ji12)).f2))).trans hx174_2; (try have hy174_0 := fun (n_ : Nat) => (show (((((w18.drewN n_).setCell ⟨gb173, 0, none⟩ (.int .i64 ((rd_T39 l0 (ji12)).f0))).setCell ⟨gb173, 1, none⟩ (.int .i64 ((rd_T39 l0 (ji12)).f1))).setCell ⟨gb173, 2, none⟩ (.int .i64 ((rd_T39 l0 (ji12)).f2)))).cell? _ = some _ from hx174_0)); (try have hy174_1 := fun (n_ : Nat) => (show (((((w18.drewN n_).setCell ⟨gb173, 0, none⟩ (.int .i64 ((rd_T39 l0 (ji12)).f0))).setCell ⟨gb173, 1, none⟩ (.int .i64 ((rd_T39 l0 (ji12)).f1))).setCell ⟨gb173, 2, none⟩ (.int .i64 ((rd_T39 l0 (ji12)).f2)))).cell? _ = some _ from hx174_1)); (try have hy174_2 := fun (n_ : Nat) => (show (((((w18.drewN n_).setCell ⟨gb173, 0, none⟩ (.int .i64 ((rd_T39 l0 (ji12)).f0))).setCell ⟨gb173, 1, none⟩ (.int .i64 ((rd_T39 l0 (ji12)).f1))).setCell ⟨gb173, 2, none⟩ (.int .i64 ((rd_T39 l0 (ji12)).f2)))).cell? _ = some _ from hx174_2)); clear hn174_0; clear hn174_1; clear hn174_2; replace p174 := eq_true p174; replace q174 := eq_true q174))
                          repeat (go_quiet (fail); try go_wp2_with (first | ((with_reducible refine gate_dst (N := 4) rfl ?_); refine box_event ?hg (N := 4) ?hd (cs := #[.int .i64 0, .int .i64 0, .int .i64 0]) (t := 39) ?hr ?_; (case hd => rfl); (case hg => rfl); (case hr => first | (go_simp; done) | (go_simp; rfl)); intro gb173 hg w18 hbox hb; have n0_ := Aside0.mk (below_step (by repeat with_reducible first | exact HB.out | apply below_alloc | apply pw_below_drewN | apply below_drew1) hb); have n1_ := Aside0.mk (hbox); have n2_ := Aside0.mk ((by rw [hg]; exact (below_size (by repeat with_reducible first | exact HB.out | apply below_alloc | apply pw_below_drewN | apply below_drew1)) : w.heap.size ≤ gb173)); have n3_ := Aside0.mk ((by rw [hg]; exact (below_size (by repeat with_reducible first | exact HB.out | apply below_alloc | apply pw_below_drewN | apply below_drew1)) : w.heap.size ≤ gb173)); clear HB; have HB := n0_; have BK173 := n1_; have GW173 := n2_; have GE173 := n3_; clear n0_ n1_ n2_ n3_; clear hb hbox hg; have hcz19_0 : w18.cell? ⟨gb173, 0, none⟩ = some (.int .i64 0) := (blk_cell BK173.out 0).trans rfl; have hcz19_1 : w18.cell? ⟨gb173, 1, none⟩ = some (.int .i64 0) := (blk_cell BK173.out 1).trans rfl; have hcz19_2 : w18.cell? ⟨gb173, 2, none⟩ = some (.int .i64 0) := (blk_cell BK173.out 2).trans rfl; have hfz19_0 := blk_frozen BK173.out 0; have hfz19_1 := blk_frozen BK173.out 1; have hfz19_2 := blk_frozen BK173.out 2; have p174 : 0 ≤ (x3_1 : Int) := of_decide_eq_true (by with_reducible assumption); have q174 : x3_1 < (l0.length : Int) := of_decide_eq_true (by with_reducible assumption); obtain ⟨ad174, e174, hx174_0, hx174_1, hx174_2⟩ := at_T39 HR0.out x3_1 p174 q174; obtain rfl : ad172 = ad174 := (by injection e174); have hn174_0 : ad172.block ≠ gb173 := Nat.ne_of_lt (Nat.lt_of_lt_of_le (by have := World.block_lt_of_cell? _ _ hx174_0; first | rwa [add_block] at this | exact this) GW173.out); have hn174_1 : ad172.block ≠ gb173 := Nat.ne_of_lt (Nat.lt_of_lt_of_le (by have := World.block_lt_of_cell? _ _ hx174_0; first | rwa [add_block] at this | exact this) GW173.out); have hn174_2 : ad172.block ≠ gb173 := Nat.ne_of_lt (Nat.lt_of_lt_of_le (by have := World.block_lt_of_cell? _ _ hx174_0; first | rwa [add_block] at this | exact this) GW173.out); replace hx174_0 := (HB.out.cell (World.block_lt_of_cell? w _ hx174_0)).trans hx174_0; replace hx174_1 := (HB.out.cell (World.block_lt_of_cell? w _ hx174_1)).trans hx174_1; replace hx174_2 := (HB.out.cell (World.block_lt_of_cell? w _ hx174_2)).trans hx174_2; replace hx174_0 := (cell_far (p := ⟨gb173, 0, none⟩) (by first | (rw [add_block]; exact hn174_0) | exact hn174_0) (.int .i64 ((rd_T39 l0 (ji12)).f0))).trans hx174_0; replace hx174_1 := (cell_far (p := ⟨gb173, 0, none⟩) (by first | (rw [add_block]; exact hn174_0) | exact hn174_0) (.int .i64 ((rd_T39 l0 (ji12)).f0))).trans hx174_1; replace hx174_2 := (cell_far (p := ⟨gb173, 0, none⟩) (by first | (rw [add_block]; exact hn174_0) | exact hn174_0) (.int .i64 ((rd_T39 l0 (ji12)).f0))).trans hx174_2; replace hx174_0 := (cell_far (p := ⟨gb173, 1, none⟩) (by first | (rw [add_block]; exact hn174_1) | exact hn174_1) (.int .i64 ((rd_T39 l0 (ji12)).f1))).trans hx174_0; replace hx174_1 := (cell_far (p := ⟨gb173, 1, none⟩) (by first | (rw [add_block]; exact hn174_1) | exact hn174_1) (.int .i64 ((rd_T39 l0 (ji12)).f1))).trans hx174_1; replace hx174_2 := (cell_far (p := ⟨gb173, 1, none⟩) (by first | (rw [add_block]; exact hn174_1) | exact hn174_1) (.int .i64 ((rd_T39 l0 (ji12)).f1))).trans hx174_2; replace hx174_0 := (cell_far (p := ⟨gb173, 2, none⟩) (by first | (rw [add_block]; exact hn174_2) | exact hn174_2) (.int .i64 ((rd_T39 l0 (ji12)).f2))).trans hx174_0; replace hx174_1 := (cell_far (p := ⟨gb173, 2, none⟩) (by first | (rw [add_block]; exact hn174_2) | exact hn174_2) (.int .i64 ((rd_T39 l0 (ji12)).f2))).trans hx174_1; replace hx174_2 := (cell_far (p := ⟨gb173, 2, none⟩) (by first | (rw [add_block]; exact hn174_2) | exact hn174_2) (.int .i64 ((rd_T39 l0 (ji12)).f2))).trans hx174_2; (try have hy174_0 := fun (n_ : Nat) => (show (((((w18.drewN n_).setCell ⟨gb173, 0, none⟩ (.int .i64 ((rd_T39 l0 (ji12)).f0))).setCell ⟨gb173, 1, none⟩ (.int .i64 ((rd_T39 l0 (ji12)).f1))).setCell ⟨gb173, 2, none⟩ (.int .i64 ((rd_T39 l0 (ji12)).f2)))).cell? _ = some _ from hx174_0)); (try have hy174_1 := fun (n_ : Nat) => (show (((((w18.drewN n_).setCell ⟨gb173, 0, none⟩ (.int .i64 ((rd_T39 l0 (ji12)).f0))).setCell ⟨gb173, 1, none⟩ (.int .i64 ((rd_T39 l0 (ji12)).f1))).setCell ⟨gb173, 2, none⟩ (.int .i64 ((rd_T39 l0 (ji12)).f2)))).cell? _ = some _ from hx174_1)); (try have hy174_2 := fun (n_ : Nat) => (show (((((w18.drewN n_).setCell ⟨gb173, 0, none⟩ (.int .i64 ((rd_T39 l0 (ji12)).f0))).setCell ⟨gb173, 1, none⟩ (.int .i64 ((rd_T39 l0 (ji12)).f1))).setCell ⟨gb173, 2, none⟩ (.int .i64 ((rd_T39 l0 (ji12)).f2)))).cell? _ = some _ from hx174_2)); clear hn174_0; clear hn174_1; clear hn174_2; replace p174 := eq_true p174; replace q174 := eq_true q174)))
                          go_ret
                          exact ⟨by first | rfl | (simp [errW_none, errW_some] <;> rfl) | (simp only [← hji12]; first | rfl | (simp [errW_none, errW_some] <;> rfl)) | (simp [*, errW_none, errW_some] <;> rfl), by repeat (first | (with_reducible first | exact HB.out | apply below_alloc | apply pw_below_drewN | apply below_drew1 | refine below_set ?_ GE173.out) | exact HB.out)⟩
                        · rw [if_neg c17] at H
                          have c17b0 : decide (((rd_T39 l0 x3_1).f0) < (wrap64 (((rd_T39 l0 (ji12)).f0) + ((rd_T39 l0 (ji12)).f1)))) = false := decide_eq_false c17
                          clear c17
                          by_cases c20 : (wrap64 (((rd_T39 l0 (ji12)).f0) + ((rd_T39 l0 (ji12)).f1))) = ((rd_T39 l0 x3_1).f0)
                          · rw [if_pos c20] at H
                            have c20b0 : ((wrap64 (((rd_T39 l0 (ji12)).f0) + ((rd_T39 l0 (ji12)).f1))) == ((rd_T39 l0 x3_1).f0)) = true := beq_iff_eq.mpr c20
                            have c20b1 : ((wrap64 (((rd_T39 l0 (ji12)).f0) + ((rd_T39 l0 (ji12)).f1))) != ((rd_T39 l0 x3_1).f0)) = false := bne_eq_false_iff_eq.mpr c20
                            clear c20
                            by_cases c21 : (wrap64 (((rd_T39 l0 (ji12)).f2) + ((rd_T39 l0 (ji12)).f1))) = ((rd_T39 l0 x3_1).f2)
                            · rw [if_pos c21] at H
                              have c21b0 : ((wrap64 (((rd_T39 l0 (ji12)).f2) + ((rd_T39 l0 (ji12)).f1))) == ((rd_T39 l0 x3_1).f2)) = true := beq_iff_eq.mpr c21
                              have c21b1 : ((wrap64 (((rd_T39 l0 (ji12)).f2) + ((rd_T39 l0 (ji12)).f1))) != ((rd_T39 l0 x3_1).f2)) = false := bne_eq_false_iff_eq.mpr c21
                              clear c21
                              obtain rfl := Option.some.inj H
                              have p172 : 0 ≤ ((ji12) : Int) := of_decide_eq_true (by with_reducible assumption)
                              have q172 : (ji12) < (l0.length : Int) := of_decide_eq_true (by with_reducible assumption)
                              obtain ⟨ad172, e172, hx172_0, hx172_1, hx172_2⟩ := at_T39 HR0.out (ji12) p172 q172
                              cases e172
                              replace hx172_0 := (HB.out.cell (World.block_lt_of_cell? w _ hx172_0)).trans hx172_0
                              replace hx172_1 := (HB.out.cell (World.block_lt_of_cell? w _ hx172_1)).trans hx172_1
                              replace hx172_2 := (HB.out.cell (World.block_lt_of_cell? w _ hx172_2)).trans hx172_2
                              replace p172 := eq_true p172
                              replace q172 := eq_true q172
                              go_wp2_with (first | ((with_reducible refine gate_dst (N := 4) rfl ?_); refine box_event ?hg (N := 4) ?hd (cs := #[.int .i64 0, .int .i64 0, .int .i64 0]) (t := 39) ?hr ?_; (case hd => rfl); (case hg => rfl); (case hr => first | (go_simp; done) | (go_simp; rfl)); intro gb173 hg w22 hbox hb; have n0_ := Aside0.mk (below_step (by repeat with_reducible first | exact HB.out | apply below_alloc | apply pw_below_drewN | apply below_drew1) hb); have n1_ := Aside0.mk (hbox); have n2_ := Aside0.mk ((by rw [hg]; exact (below_size (by repeat with_reducible first | exact HB.out | apply below_alloc | apply pw_below_drewN | apply below_drew1)) : w.heap.size ≤ gb173)); have n3_ := Aside0.mk ((by rw [hg]; exact (below_size (by repeat with_reducible first | exact HB.out | apply below_alloc | apply pw_below_drewN | apply below_drew1)) : w.heap.size ≤ gb173)); clear HB; have HB := n0_; have BK173 := n1_; have GW173 := n2_; have GE173 := n3_; clear n0_ n1_ n2_ n3_; clear hb hbox hg; have hcz23_0 : w22.cell? ⟨gb173, 0, none⟩ = some (.int .i64 0) := (blk_cell BK173.out 0).trans rfl; have hcz23_1 : w22.cell? ⟨gb173, 1, none⟩ = some (.int .i64 0) := (blk_cell BK173.out 1).trans rfl; have hcz23_2 : w22.cell? ⟨gb173, 2, none⟩ = some (.int .i64 0) := (blk_cell BK173.out 2).trans rfl; have hfz23_0 := blk_frozen BK173.out 0; have hfz23_1 := blk_frozen BK173.out 1; have hfz23_2 := blk_frozen BK173.out 2; have p174 : 0 ≤ (x3_1 : Int) := of_decide_eq_true (by with_reducible assumption); have q174 : x3_1 < (l0.length : Int) := of_decide_eq_true (by with_reducible assumption); obtain ⟨ad174, e174, hx174_0, hx174_1, hx174_2⟩ := at_T39 HR0.out x3_1 p174 q174; obtain rfl : ad172 = ad174 := (by injection e174); have hn174_0 : ad172.block ≠ gb173 := Nat.ne_of_lt (Nat.lt_of_lt_of_le (by have := World.block_lt_of_cell? _ _ hx174_0; first | rwa [add_block] at this | exact this) GW173.out); have hn174_1 : ad172.block ≠ gb173 := Nat.ne_of_lt (Nat.lt_of_lt_of_le (by have := World.block_lt_of_cell? _ _ hx174_0; first | rwa [add_block] at this | exact this) GW173.out); have hn174_2 : ad172.block ≠ gb173 := Nat.ne_of_lt (Nat.lt_of_lt_of_le (by have := World.block_lt_of_cell? _ _ hx174_0; first | rwa [add_block] at this | exact this) GW173.out); replace hx174_0 := (HB.out.cell (World.block_lt_of_cell? w _ hx174_0)).trans hx174_0; replace hx174_1 := (HB.out.cell (World.block_lt_of_cell? w _ hx174_1)).trans hx174_1; replace hx174_2 := (HB.out.cell (World.block_lt_of_cell? w _ hx174_2)).trans hx174_2; replace hx174_0 := (cell_far (p := ⟨gb173, 0, none⟩) (by first | (rw [add_block]; exact hn174_0) | exact hn174_0) (.int .i64 ((rd_T39 l0 (ji12)).f0))).trans hx174_0; replace hx174_1 := (cell_far (p := ⟨gb173, 0, none⟩) (by first | (rw [add_block]; exact hn174_0) | exact hn174_0) (.int .i64 ((rd_T39 l0 (ji12)).f0))).trans hx174_1; replace hx174_2 := (cell_far (p := ⟨gb173, 0, none⟩) (by first | (rw [add_block]; exact hn174_0) | exact hn174_0) (.int .i64 ((rd_T39 l0 (ji12)).f0))).trans hx174_2; replace hx174_0 := (cell_far (p := ⟨gb173, 1, none⟩) (by first | (rw [add_block]; exact hn174_1) | exact hn174_1) (.int .i64 ((rd_T39 l0 (ji12)).f1))).trans hx174_0; replace hx174_1 := (cell_far (p := ⟨gb173, 1, none⟩) (by first | (rw [add_block]; exact hn174_1) | exact hn174_1) (.int .i64 ((rd_T39 l0 (ji12)).f1))).trans hx174_1; replace hx174_2 := (cell_far (p := ⟨gb173, 1, none⟩) (by first | (rw [add_block]; exact hn174_1) | exact hn174_1) (.int .i64 ((rd_T39 l0 (ji12)).f1))).trans hx174_2; replace hx174_0 := (cell_far (p := ⟨gb173, 2, none⟩) (by first | (rw [add_block]; exact hn174_2) | exact hn174_2) (.int .i64 ((rd_T39 l0 (ji12)).f2))).trans hx174_0; replace hx174_1 := (cell_far (p := ⟨gb173, 2, none⟩) (by first | (rw [add_block]; exact hn174_2) | exact hn174_2) (.int .i64 ((rd_T39 l0 (ji12)).f2))).trans hx174_1; replace hx174_2 := (cell_far (p := ⟨gb173, 2, none⟩) (by first | (rw [add_block]; exact hn174_2) | exact hn174_2) (.int .i64 ((rd_T39 l0 (ji12)).f2))).trans hx174_2; (try have hy174_0 := fun (n_ : Nat) => (show (((((w22.drewN n_).setCell ⟨gb173, 0, none⟩ (.int .i64 ((rd_T39 l0 (ji12)).f0))).setCell ⟨gb173, 1, none⟩ (.int .i64 ((rd_T39 l0 (ji12)).f1))).setCell ⟨gb173, 2, none⟩ (.int .i64 ((rd_T39 l0 (ji12)).f2)))).cell? _ = some _ from hx174_0)); (try have hy174_1 := fun (n_ : Nat) => (show (((((w22.drewN n_).setCell ⟨gb173, 0, none⟩ (.int .i64 ((rd_T39 l0 (ji12)).f0))).setCell ⟨gb173, 1, none⟩ (.int .i64 ((rd_T39 l0 (ji12)).f1))).setCell ⟨gb173, 2, none⟩ (.int .i64 ((rd_T39 l0 (ji12)).f2)))).cell? _ = some _ from hx174_1)); (try have hy174_2 := fun (n_ : Nat) => (show (((((w22.drewN n_).setCell ⟨gb173, 0, none⟩ (.int .i64 ((rd_T39 l0 (ji12)).f0))).setCell ⟨gb173, 1, none⟩ (.int .i64 ((rd_T39 l0 (ji12)).f1))).setCell ⟨gb173, 2, none⟩ (.int .i64 ((rd_T39 l0 (ji12)).f2)))).cell? _ = some _ from hx174_2)); clear hn174_0; clear hn174_1; clear hn174_2; replace p174 := eq_true p174; replace q174 := eq_true q174; have p175 : 0 ≤ (x3_1 : Int) := of_decide_eq_true (by with_reducible assumption); have q175 : x3_1 < (l0.length : Int) := of_decide_eq_true (by with_reducible assumption); obtain ⟨ad175, e175, hx175_0, hx175_1, hx175_2⟩ := at_T39 HR0.out x3_1 p175 q175; obtain rfl : ad172 = ad175 := (by injection e175); have hn175_0 : ad172.block ≠ gb173 := Nat.ne_of_lt (Nat.lt_of_lt_of_le (by have := World.block_lt_of_cell? _ _ hx175_0; first | rwa [add_block] at this | exact this) GW173.out); have hn175_1 : ad172.block ≠ gb173 := Nat.ne_of_lt (Nat.lt_of_lt_of_le (by have := World.block_lt_of_cell? _ _ hx175_0; first | rwa [add_block] at this | exact this) GW173.out); have hn175_2 : ad172.block ≠ gb173 := Nat.ne_of_lt (Nat.lt_of_lt_of_le (by have := World.block_lt_of_cell? _ _ hx175_0; first | rwa [add_block] at this | exact this) GW173.out); replace hx175_0 := (HB.out.cell (World.block_lt_of_cell? w _ hx175_0)).trans hx175_0; replace hx175_1 := (HB.out.cell (World.block_lt_of_cell? w _ hx175_1)).trans hx175_1; replace hx175_2 := (HB.out.cell (World.block_lt_of_cell? w _ hx175_2)).trans hx175_2; replace hx175_0 := (cell_far (p := ⟨gb173, 0, none⟩) (by first | (rw [add_block]; exact hn175_0) | exact hn175_0) (.int .i64 ((rd_T39 l0 (ji12)).f0))).trans hx175_0; replace hx175_1 := (cell_far (p := ⟨gb173, 0, none⟩) (by first | (rw [add_block]; exact hn175_0) | exact hn175_0) (.int .i64 ((rd_T39 l0 (ji12)).f0))).trans hx175_1; replace hx175_2 := (cell_far (p := ⟨gb173, 0, none⟩) (by first | (rw [add_block]; exact hn175_0) | exact hn175_0) (.int .i64 ((rd_T39 l0 (ji12)).f0))).trans hx175_2; replace hx175_0 := (cell_far (p := ⟨gb173, 1, none⟩) (by first | (rw [add_block]; exact hn175_1) | exact hn175_1) (.int .i64 ((rd_T39 l0 (ji12)).f1))).trans hx175_0; replace hx175_1 := (cell_far (p := ⟨gb173, 1, none⟩) (by first | (rw [add_block]; exact hn175_1) | exact hn175_1) (.int .i64 ((rd_T39 l0 (ji12)).f1))).trans hx175_1; replace hx175_2 := (cell_far (p := ⟨gb173, 1, none⟩) (by first | (rw [add_block]; exact hn175_1) | exact hn175_1) (.int .i64 ((rd_T39 l0 (ji12)).f1))).trans hx175_2; replace hx175_0 := (cell_far (p := ⟨gb173, 2, none⟩) (by first | (rw [add_block]; exact hn175_2) | exact hn175_2) (.int .i64 ((rd_T39 l0 (ji12)).f2))).trans hx175_0; replace hx175_1 := (cell_far (p := ⟨gb173, 2, none⟩) (by first | (rw [add_block]; exact hn175_2) | exact hn175_2) (.int .i64 ((rd_T39 l0 (ji12)).f2))).trans hx175_1; replace hx175_2 := (cell_far (p := ⟨gb173, 2, none⟩) (by first | (rw [add_block]; exact hn175_2) | exact hn175_2) (.int .i64 ((rd_T39 l0 (ji12)).f2))).trans hx175_2; (try have hy175_0 := fun (n_ : Nat) => (show (((((w22.drewN n_).setCell ⟨gb173, 0, none⟩ (.int .i64 ((rd_T39 l0 (ji12)).f0))).setCell ⟨gb173, 1, none⟩ (.int .i64 ((rd_T39 l0 (ji12)).f1))).setCell ⟨gb173, 2, none⟩ (.int .i64 ((rd_T39 l0 (ji12)).f2)))).cell? _ = some _ from hx175_0)); (try have hy175_1 := fun (n_ : Nat) => (show (((((w22.drewN n_).setCell ⟨gb173, 0, none⟩ (.int .i64 ((rd_T39 l0 (ji12)).f0))).setCell ⟨gb173, 1, none⟩ (.int .i64 ((rd_T39 l0 (ji12)).f1))).setCell ⟨gb173, 2, none⟩ (.int .i64 ((rd_T39 l0 (ji12)).f2)))).cell? _ = some _ from hx175_1)); (try have hy175_2 := fun (n_ : Nat) => (show (((((w22.drewN n_).setCell ⟨gb173, 0, none⟩ (.int .i64 ((rd_T39 l0 (ji12)).f0))).setCell ⟨gb173, 1, none⟩ (.int .i64 ((rd_T39 l0 (ji12)).f1))).setCell ⟨gb173, 2, none⟩ (.int .i64 ((rd_T39 l0 (ji12)).f2)))).cell? _ = some _ from hx175_2)); clear hn175_0; clear hn175_1; clear hn175_2; replace p175 := eq_true p175; replace q175 := eq_true q175; have p176 : 0 ≤ (x3_1 : Int) := of_decide_eq_true (by with_reducible assumption); have q176 : x3_1 < (l0.length : Int) := of_decide_eq_true (by with_reducible assumption); obtain ⟨ad176, e176, hx176_0, hx176_1, hx176_2⟩ := at_T39 HR0.out x3_1 p176 q176; obtain rfl : ad172 = ad176 := (by injection e176); have hn176_0 : ad172.block ≠ gb173 := Nat.ne_of_lt (Nat.lt_of_lt_of_le (by have := World.block_lt_of_cell? _ _ hx176_0; first | rwa [add_block] at this | exact this) GW173.out); have hn176_1 : ad172.block ≠ gb173 := Nat.ne_of_lt (Nat.lt_of_lt_of_le (by have := World.block_lt_of_cell? _ _ hx176_0; first | rwa [add_block] at this | exact this) GW173.out); have hn176_2 : ad172.block ≠ gb173 := Nat.ne_of_lt (Nat.lt_of_lt_of_le (by have := World.block_lt_of_cell? _ _ hx176_0; first | rwa [add_block] at this | exact this) GW173.out); replace hx176_0 := (HB.out.cell (World.block_lt_of_cell? w _ hx176_0)).trans hx176_0; replace hx176_1 := (HB.out.cell (World.block_lt_of_cell? w _ hx176_1)).trans hx176_1; replace hx176_2 := (HB.out.cell (World.block_lt_of_cell? w _ hx176_2)).trans hx176_2; replace hx176_0 := (cell_far (p := ⟨gb173, 0, none⟩) (by first | (rw [add_block]; exact hn176_0) | exact hn176_0) (.int .i64 ((rd_T39 l0 (ji12)).f0))).trans hx176_0; replace hx176_1 := (cell_far (p := ⟨gb173, 0, none⟩) (by first | (rw [add_block]; exact hn176_0) | exact hn176_0) (.int .i64 ((rd_T39 l0 (ji12)).f0))).trans hx176_1; replace hx176_2 := (cell_far (p := ⟨gb173, 0, none⟩) (by first | (rw [add_block]; exact hn176_0) | exact hn176_0) (.int .i64 ((rd_T39 l0 (ji12)).f0))).trans hx176_2; replace hx176_0 := (cell_far (p := ⟨gb173, 1, none⟩) (by first | (rw [add_block]; exact hn176_1) | exact hn176_1) (.int .i64 ((rd_T39 l0 (ji12)).f1))).trans hx176_0; replace hx176_1 := (cell_far (p := ⟨gb173, 1, none⟩) (by first | (rw [add_block]; exact hn176_1) | exact hn176_1) (.int .i64 ((rd_T39 l0 (ji12)).f1))).trans hx176_1; replace hx176_2 := (cell_far (p := ⟨gb173, 1, none⟩) (by first | (rw [add_block]; exact hn176_1) | exact hn176_1) (.int .i64 ((rd_T39 l0 (ji12)).f1))).trans hx176_2; replace hx176_0 := (cell_far (p := ⟨gb173, 2, none⟩) (by first | (rw [add_block]; exact hn176_2) | exact hn176_2) (.int .i64 ((rd_T39 l0 (ji12)).f2))).trans hx176_0; replace hx176_1 := (cell_far (p := ⟨gb173, 2, none⟩) (by first | (rw [add_block]; exact hn176_2) | exact hn176_2) (.int .i64 ((rd_T39 l0 (ji12)).f2))).trans hx176_1; replace hx176_2 := (cell_far (p := ⟨gb173, 2, none⟩) (by first | (rw [add_block]; exact hn176_2) | exact hn176_2) (.int .i64 ((rd_T39 l0 (ji12)).f2))).trans hx176_2; (try have hy176_0 := fun (n_ : Nat) => (show (((((w22.drewN n_).setCell ⟨gb173, 0, none⟩ (.int .i64 ((rd_T39 l0 (ji12)).f0))).setCell ⟨gb173, 1, none⟩ (.int .i64 ((rd_T39 l0 (ji12)).f1))).setCell ⟨gb173, 2, none⟩ (.int .i64 ((rd_T39 l0 (ji12)).f2)))).cell? _ = some _ from hx176_0)); (try have hy176_1 := fun (n_ : Nat) => (show (((((w22.drewN n_).setCell ⟨gb173, 0, none⟩ (.int .i64 ((rd_T39 l0 (ji12)).f0))).setCell ⟨gb173, 1, none⟩ (.int .i64 ((rd_T39 l0 (ji12)).f1))).setCell ⟨gb173, 2, none⟩ (.int .i64 ((rd_T39 l0 (ji12)).f2)))).cell? _ = some _ from hx176_1)); (try have hy176_2 := fun (n_ : Nat) => (show (((((w22.drewN n_).setCell ⟨gb173, 0, none⟩ (.int .i64 ((rd_T39 l0 (ji12)).f0))).setCell ⟨gb173, 1, none⟩ (.int .i64 ((rd_T39 l0 (ji12)).f1))).setCell ⟨gb173, 2, none⟩ (.int .i64 ((rd_T39 l0 (ji12)).f2)))).cell? _ = some _ from hx176_2)); clear hn176_0; clear hn176_1; clear hn176_2; replace p176 := eq_true p176; replace q176 := eq_true q176))
                              repeat (go_quiet (fail); try go_wp2_with (first | ((with_reducible refine gate_dst (N := 4) rfl ?_); refine box_event ?hg (N := 4) ?hd (cs := #[.int .i64 0, .int .i64 0, .int .i64 0]) (t := 39) ?hr ?_; (case hd => rfl); (case hg => rfl); (case hr => first | (go_simp; done) | (go_simp; rfl)); intro gb173 hg w22 hbox hb; have n0_ := Aside0.mk (below_step (by repeat with_reducible first | exact HB.out | apply below_alloc | apply pw_below_drewN | apply below_drew1) hb); have n1_ := Aside0.mk (hbox); have n2_ := Aside0.mk ((by rw [hg]; exact (below_size (by repeat with_reducible first | exact HB.out | apply below_alloc | apply pw_below_drewN | apply below_drew1)) : w.heap.size ≤ gb173)); have n3_ := Aside0.mk ((by rw [hg]; exact (below_size (by repeat with_reducible first | exact HB.out | apply below_alloc | apply pw_below_drewN | apply below_drew1)) : w.heap.size ≤ gb173)); clear HB; have HB := n0_; have BK173 := n1_; have GW173 := n2_; have GE173 := n3_; clear n0_ n1_ n2_ n3_; clear hb hbox hg; have hcz23_0 : w22.cell? ⟨gb173, 0, none⟩ = some (.int .i64 0) := (blk_cell BK173.out 0).trans rfl; have hcz23_1 : w22.cell? ⟨gb173, 1, none⟩ = some (.int .i64 0) := (blk_cell BK173.out 1).trans rfl; have hcz23_2 : w22.cell? ⟨gb173, 2, none⟩ = some (.int .i64 0) := (blk_cell BK173.out 2).trans rfl; have hfz23_0 := blk_frozen BK173.out 0; have hfz23_1 := blk_frozen BK173.out 1; have hfz23_2 := blk_frozen BK173.out 2; have p174 : 0 ≤ (x3_1 : Int) := of_decide_eq_true (by with_reducible assumption); have q174 : x3_1 < (l0.length : Int) := of_decide_eq_true (by with_reducible assumption); obtain ⟨ad174, e174, hx174_0, hx174_1, hx174_2⟩ := at_T39 HR0.out x3_1 p174 q174; obtain rfl : ad172 = ad174 := (by injection e174); have hn174_0 : ad172.block ≠ gb173 := Nat.ne_of_lt (Nat.lt_of_lt_of_le (by have := World.block_lt_of_cell? _ _ hx174_0; first | rwa [add_block] at this | exact this) GW173.out); have hn174_1 : ad172.block ≠ gb173 := Nat.ne_of_lt (Nat.lt_of_lt_of_le (by have := World.block_lt_of_cell? _ _ hx174_0; first | rwa [add_block] at this | exact this) GW173.out); have hn174_2 : ad172.block ≠ gb173 := Nat.ne_of_lt (Nat.lt_of_lt_of_le (by have := World.block_lt_of_cell? _ _ hx174_0; first | rwa [add_block] at this | exact this) GW173.out); replace hx174_0 := (HB.out.cell (World.block_lt_of_cell? w _ hx174_0)).trans hx174_0; replace hx174_1 := (HB.out.cell (World.block_lt_of_cell? w _ hx174_1)).trans hx174_1; replace hx174_2 := (HB.out.cell (World.block_lt_of_cell? w _ hx174_2)).trans hx174_2; replace hx174_0 := (cell_far (p := ⟨gb173, 0, none⟩) (by first | (rw [add_block]; exact hn174_0) | exact hn174_0) (.int .i64 ((rd_T39 l0 (ji12)).f0))).trans hx174_0; replace hx174_1 := (cell_far (p := ⟨gb173, 0, none⟩) (by first | (rw [add_block]; exact hn174_0) | exact hn174_0) (.int .i64 ((rd_T39 l0 (ji12)).f0))).trans hx174_1; replace hx174_2 := (cell_far (p := ⟨gb173, 0, none⟩) (by first | (rw [add_block]; exact hn174_0) | exact hn174_0) (.int .i64 ((rd_T39 l0 (ji12)).f0))).trans hx174_2; replace hx174_0 := (cell_far (p := ⟨gb173, 1, none⟩) (by first | (rw [add_block]; exact hn174_1) | exact hn174_1) (.int .i64 ((rd_T39 l0 (ji12)).f1))).trans hx174_0; replace hx174_1 := (cell_far (p := ⟨gb173, 1, none⟩) (by first | (rw [add_block]; exact hn174_1) | exact hn174_1) (.int .i64 ((rd_T39 l0 (ji12)).f1))).trans hx174_1; replace hx174_2 := (cell_far (p := ⟨gb173, 1, none⟩) (by first | (rw [add_block]; exact hn174_1) | exact hn174_1) (.int .i64 ((rd_T39 l0 (ji12)).f1))).trans hx174_2; replace hx174_0 := (cell_far (p := ⟨gb173, 2, none⟩) (by first | (rw [add_block]; exact hn174_2) | exact hn174_2) (.int .i64 ((rd_T39 l0 (ji12)).f2))).trans hx174_0; replace hx174_1 := (cell_far (p := ⟨gb173, 2, none⟩) (by first | (rw [add_block]; exact hn174_2) | exact hn174_2) (.int .i64 ((rd_T39 l0 (ji12)).f2))).trans hx174_1; replace hx174_2 := (cell_far (p := ⟨gb173, 2, none⟩) (by first | (rw [add_block]; exact hn174_2) | exact hn174_2) (.int .i64 ((rd_T39 l0 (ji12)).f2))).trans hx174_2; (try have hy174_0 := fun (n_ : Nat) => (show (((((w22.drewN n_).setCell ⟨gb173, 0, none⟩ (.int .i64 ((rd_T39 l0 (ji12)).f0))).setCell ⟨gb173, 1, none⟩ (.int .i64 ((rd_T39 l0 (ji12)).f1))).setCell ⟨gb173, 2, none⟩ (.int .i64 ((rd_T39 l0 (ji12)).f2)))).cell? _ = some _ from hx174_0)); (try have hy174_1 := fun (n_ : Nat) => (show (((((w22.drewN n_).setCell ⟨gb173, 0, none⟩ (.int .i64 ((rd_T39 l0 (ji12)).f0))).setCell ⟨gb173, 1, none⟩ (.int .i64 ((rd_T39 l0 (ji12)).f1))).setCell ⟨gb173, 2, none⟩ (.int .i64 ((rd_T39 l0 (ji12)).f2)))).cell? _ = some _ from hx174_1)); (try have hy174_2 := fun (n_ : Nat) => (show (((((w22.drewN n_).setCell ⟨gb173, 0, none⟩ (.int .i64 ((rd_T39 l0 (ji12)).f0))).setCell ⟨gb173, 1, none⟩ (.int .i64 ((rd_T39 l0 (ji12)).f1))).setCell ⟨gb173, 2, none⟩ (.int .i64 ((rd_T39 l0 (ji12)).f2)))).cell? _ = some _ from hx174_2)); clear hn174_0; clear hn174_1; clear hn174_2; replace p174 := eq_true p174; replace q174 := eq_true q174; have p175 : 0 ≤ (x3_1 : Int) := of_decide_eq_true (by with_reducible assumption); have q175 : x3_1 < (l0.length : Int) := of_decide_eq_true (by with_reducible assumption); obtain ⟨ad175, e175, hx175_0, hx175_1, hx175_2⟩ := at_T39 HR0.out x3_1 p175 q175; obtain rfl : ad172 = ad175 := (by injection e175); have hn175_0 : ad172.block ≠ gb173 := Nat.ne_of_lt (Nat.lt_of_lt_of_le (by have := World.block_lt_of_cell? _ _ hx175_0; first | rwa [add_block] at this | exact this) GW173.out); have hn175_1 : ad172.block ≠ gb173 := Nat.ne_of_lt (Nat.lt_of_lt_of_le (by have := World.block_lt_of_cell? _ _ hx175_0; first | rwa [add_block] at this | exact this) GW173.out); have hn175_2 : ad172.block ≠ gb173 := Nat.ne_of_lt (Nat.lt_of_lt_of_le (by have := World.block_lt_of_cell? _ _ hx175_0; first | rwa [add_block] at this | exact this) GW173.out); replace hx175_0 := (HB.out.cell (World.block_lt_of_cell? w _ hx175_0)).trans hx175_0; replace hx175_1 := (HB.out.cell (World.block_lt_of_cell? w _ hx175_1)).trans hx175_1; replace hx175_2 := (HB.out.cell (World.block_lt_of_cell? w _ hx175_2)).trans hx175_2; replace hx175_0 := (cell_far (p := ⟨gb173, 0, none⟩) (by first | (rw [add_block]; exact hn175_0) | exact hn175_0) (.int .i64 ((rd_T39 l0 (ji12)).f0))).trans hx175_0; replace hx175_1 := (cell_far (p := ⟨gb173, 0, none⟩) (by first | (rw [add_block]; exact hn175_0) | exact hn175_0) (.int .i64 ((rd_T39 l0 (ji12)).f0))).trans hx175_1; replace hx175_2 := (cell_far (p := ⟨gb173, 0, none⟩) (by first | (rw [add_block]; exact hn175_0) | exact hn175_0) (.int .i64 ((rd_T39 l0 (ji12)).f0))).trans hx175_2; replace hx175_0 := (cell_far (p := ⟨gb173, 1, none⟩) (by first | (rw [add_block]; exact hn175_1) | exact hn175_1) (.int .i64 ((rd_T39 l0 (ji12)).f1))).trans hx175_0; replace hx175_1 := (cell_far (p := ⟨gb173, 1, none⟩) (by first | (rw [add_block]; exact hn175_1) | exact hn175_1) (.int .i64 ((rd_T39 l0 (ji12)).f1))).trans hx175_1; replace hx175_2 := (cell_far (p := ⟨gb173, 1, none⟩) (by first | (rw [add_block]; exact hn175_1) | exact hn175_1) (.int .i64 ((rd_T39 l0 (ji12)).f1))).trans hx175_2; replace hx175_0 := (cell_far (p := ⟨gb173, 2, none⟩) (by first | (rw [add_block]; exact hn175_2) | exact hn175_2) (.int .i64 ((rd_T39 l0 (ji12)).f2))).trans hx175_0; replace hx175_1 := (cell_far (p := ⟨gb173, 2, none⟩) (by first | (rw [add_block]; exact hn175_2) | exact hn175_2) (.int .i64 ((rd_T39 l0 (ji12)).f2))).trans hx175_1; replace hx175_2 := (cell_far (p := ⟨gb173, 2, none⟩) (by first | (rw [add_block]; exact hn175_2) | exact hn175_2) (.int .i64 ((rd_T39 l0 (ji12)).f2))).trans hx175_2; (try have hy175_0 := fun (n_ : Nat) => (show (((((w22.drewN n_).setCell ⟨gb173, 0, none⟩ (.int .i64 ((rd_T39 l0 (ji12)).f0))).setCell ⟨gb173, 1, none⟩ (.int .i64 ((rd_T39 l0 (ji12)).f1))).setCell ⟨gb173, 2, none⟩ (.int .i64 ((rd_T39 l0 (ji12)).f2)))).cell? _ = some _ from hx175_0)); (try have hy175_1 := fun (n_ : Nat) => (show (((((w22.drewN n_).setCell ⟨gb173, 0, none⟩ (.int .i64 ((rd_T39 l0 (ji12)).f0))).setCell ⟨gb173, 1, none⟩ (.int .i64 ((rd_T39 l0 (ji12)).f1))).setCell ⟨gb173, 2, none⟩ (.int .i64 ((rd_T39 l0 (ji12)).f2)))).cell? _ = some _ from hx175_1)); (try have hy175_2 := fun (n_ : Nat) => (show (((((w22.drewN n_).setCell ⟨gb173, 0, none⟩ (.int .i64 ((rd_T39 l0 (ji12)).f0))).setCell ⟨gb173, 1, none⟩ (.int .i64 ((rd_T39 l0 (ji12)).f1))).setCell ⟨gb173, 2, none⟩ (.int .i64 ((rd_T39 l0 (ji12)).f2)))).cell? _ = some _ from hx175_2)); clear hn175_0; clear hn175_1; clear hn175_2; replace p175 := eq_true p175; replace q175 := eq_true q175; have p176 : 0 ≤ (x3_1 : Int) := of_decide_eq_true (by with_reducible assumption); have q176 : x3_1 < (l0.length : Int) := of_decide_eq_true (by with_reducible assumption); obtain ⟨ad176, e176, hx176_0, hx176_1, hx176_2⟩ := at_T39 HR0.out x3_1 p176 q176; obtain rfl : ad172 = ad176 := (by injection e176); have hn176_0 : ad172.block ≠ gb173 := Nat.ne_of_lt (Nat.lt_of_lt_of_le (by have := World.block_lt_of_cell? _ _ hx176_0; first | rwa [add_block] at this | exact this) GW173.out); have hn176_1 : ad172.block ≠ gb173 := Nat.ne_of_lt (Nat.lt_of_lt_of_le (by have := World.block_lt_of_cell? _ _ hx176_0; first | rwa [add_block] at this | exact this) GW173.out); have hn176_2 : ad172.block ≠ gb173 := Nat.ne_of_lt (Nat.lt_of_lt_of_le (by have := World.block_lt_of_cell? _ _ hx176_0; first | rwa [add_block] at this | exact this) GW173.out); replace hx176_0 := (HB.out.cell (World.block_lt_of_cell? w _ hx176_0)).trans hx176_0; replace hx176_1 := (HB.out.cell (World.block_lt_of_cell? w _ hx176_1)).trans hx176_1; replace hx176_2 := (HB.out.cell (World.block_lt_of_cell? w _ hx176_2)).trans hx176_2; replace hx176_0 := (cell_far (p := ⟨gb173, 0, none⟩) (by first | (rw [add_block]; exact hn176_0) | exact hn176_0) (.int .i64 ((rd_T39 l0 (ji12)).f0))).trans hx176_0; replace hx176_1 := (cell_far (p := ⟨gb173, 0, none⟩) (by first | (rw [add_block]; exact hn176_0) | exact hn176_0) (.int .i64 ((rd_T39 l0 (ji12)).f0))).trans hx176_1; replace hx176_2 := (cell_far (p := ⟨gb173, 0, none⟩) (by first | (rw [add_block]; exact hn176_0) | exact hn176_0) (.int .i64 ((rd_T39 l0 (ji12)).f0))).trans hx176_2; replace hx176_0 := (cell_far (p := ⟨gb173, 1, none⟩) (by first | (rw [add_block]; exact hn176_1) | exact hn176_1) (.int .i64 ((rd_T39 l0 (ji12)).f1))).trans hx176_0; replace hx176_1 := (cell_far (p := ⟨gb173, 1, none⟩) (by first | (rw [add_block]; exact hn176_1) | exact hn176_1) (.int .i64 ((rd_T39 l0 (ji12)).f1))).trans hx176_1; replace hx176_2 := (cell_far (p := ⟨gb173, 1, none⟩) (by first | (rw [add_block]; exact hn176_1) | exact hn176_1) (.int .i64 ((rd_T39 l0 (ji12)).f1))).trans hx176_2; replace hx176_0 := (cell_far (p := ⟨gb173, 2, none⟩) (by first | (rw [add_block]; exact hn176_2) | exact hn176_2) (.int .i64 ((rd_T39 l0 (ji12)).f2))).trans hx176_0; replace hx176_1 := (cell_far (p := ⟨gb173, 2, none⟩) (by first | (rw [add_block]; exact hn176_2) | exact hn176_2) (.int .i64 ((rd_T39 l0 (ji12)).f2))).trans hx176_1; replace hx176_2 := (cell_far (p := ⟨gb173, 2, none⟩) (by first | (rw [add_block]; exact hn176_2) | exact hn176_2) (.int .i64 ((rd_T39 l0 (ji12)).f2))).trans hx176_2; (try have hy176_0 := fun (n_ : Nat) => (show (((((w22.drewN n_).setCell ⟨gb173, 0, none⟩ (.int .i64 ((rd_T39 l0 (ji12)).f0))).setCell ⟨gb173, 1, none⟩ (.int .i64 ((rd_T39 l0 (ji12)).f1))).setCell ⟨gb173, 2, none⟩ (.int .i64 ((rd_T39 l0 (ji12)).f2)))).cell? _ = some _ from hx176_0)); (try have hy176_1 := fun (n_ : Nat) => (show (((((w22.drewN n_).setCell ⟨gb173, 0, none⟩ (.int .i64 ((rd_T39 l0 (ji12)).f0))).setCell ⟨gb173, 1, none⟩ (.int .i64 ((rd_T39 l0 (ji12)).f1))).setCell ⟨gb173, 2, none⟩ (.int .i64 ((rd_T39 l0 (ji12)).f2)))).cell? _ = some _ from hx176_1)); (try have hy176_2 := fun (n_ : Nat) => (show (((((w22.drewN n_).setCell ⟨gb173, 0, none⟩ (.int .i64 ((rd_T39 l0 (ji12)).f0))).setCell ⟨gb173, 1, none⟩ (.int .i64 ((rd_T39 l0 (ji12)).f1))).setCell ⟨gb173, 2, none⟩ (.int .i64 ((rd_T39 l0 (ji12)).f2)))).cell? _ = some _ from hx176_2)); clear hn176_0; clear hn176_1; clear hn176_2; replace p176 := eq_true p176; replace q176 := eq_true q176)))
                              go_ret
                              exact ⟨by first | rfl | (simp [errW_none, errW_some] <;> rfl) | (simp only [← hji12]; first | rfl | (simp [errW_none, errW_some] <;> rfl)) | (simp [*, errW_none, errW_some] <;> rfl), by repeat (first | (with_reducible first | exact HB.out | apply below_alloc | apply pw_below_drewN | apply below_drew1 | refine below_set ?_ GE173.out) | exact HB.out)⟩
                            · rw [if_neg c21] at H
                              have c21b0 : ((wrap64 (((rd_T39 l0 (ji12)).f2) + ((rd_T39 l0 (ji12)).f1))) == ((rd_T39 l0 x3_1).f2)) = false := beq_eq_false_iff_ne.mpr c21
                              have c21b1 : ((wrap64 (((rd_T39 l0 (ji12)).f2) + ((rd_T39 l0 (ji12)).f1))) != ((rd_T39 l0 x3_1).f2)) = true := bne_iff_ne.mpr c21
                              have H' := Aside0.mk H
                              clear H
                              have p172 : 0 ≤ ((ji12) : Int) := of_decide_eq_true (by with_reducible assumption)
                              have q172 : (ji12) < (l0.length : Int) := of_decide_eq_true (by with_reducible assumption)
                              obtain ⟨ad172, e172, hx172_0, hx172_1, hx172_2⟩ := at_T39 HR0.out (ji12) p172 q172
                              cases e172
                              replace hx172_0 := (HB.out.cell (World.block_lt_of_cell? w _ hx172_0)).trans hx172_0
                              replace hx172_1 := (HB.out.cell (World.block_lt_of_cell? w _ hx172_1)).trans hx172_1
                              replace hx172_2 := (HB.out.cell (World.block_lt_of_cell? w _ hx172_2)).trans hx172_2
                              replace p172 := eq_true p172
                              replace q172 := eq_true q172
                              go_wp2_with (first | ((with_reducible refine gate_dst (N := 4) rfl ?_); refine box_event ?hg (N := 4) ?hd (cs := #[.int .i64 0, .int .i64 0, .int .i64 0]) (t := 39) ?hr ?_; (case hd => rfl); (case hg => rfl); (case hr => first | (go_simp; done) | (go_simp; rfl)); intro gb173 hg w24 hbox hb; have n0_ := Aside0.mk (below_step (by repeat with_reducible first | exact HB.out | apply below_alloc | apply pw_below_drewN | apply below_drew1) hb); have n1_ := Aside0.mk (hbox); have n2_ := Aside0.mk ((by rw [hg]; exact (below_size (by repeat with_reducible first | exact HB.out | apply below_alloc | apply pw_below_drewN | apply below_drew1)) : w.heap.size ≤ gb173)); have n3_ := Aside0.mk ((by rw [hg]; exact (below_size (by repeat with_reducible first | exact HB.out | apply below_alloc | apply pw_below_drewN | apply below_drew1)) : w.heap.size ≤ gb173)); clear HB; have HB := n0_; have BK173 := n1_; have GW173 := n2_; have GE173 := n3_; clear n0_ n1_ n2_ n3_; clear hb hbox hg; have hcz25_0 : w24.cell? ⟨gb173, 0, none⟩ = some (.int .i64 0) := (blk_cell BK173.out 0).trans rfl; have hcz25_1 : w24.cell? ⟨gb173, 1, none⟩ = some (.int .i64 0) := (blk_cell BK173.out 1).trans rfl; have hcz25_2 : w24.cell? ⟨gb173, 2, none⟩ = some (.int .i64 0) := (blk_cell BK173.out 2).trans rfl; have hfz25_0 := blk_frozen BK173.out 0; have hfz25_1 := blk_frozen BK173.out 1; have hfz25_2 := blk_frozen BK173.out 2; have p174 : 0 ≤ (x3_1 : Int) := of_decide_eq_true (by with_reducible assumption); have q174 : x3_1 < (l0.length : Int) := of_decide_eq_true (by with_reducible assumption); obtain ⟨ad174, e174, hx174_0, hx174_1, hx174_2⟩ := at_T39 HR0.out x3_1 p174 q174; obtain rfl : ad172 = ad174 := (by injection e174); have hn174_0 : ad172.block ≠ gb173 := Nat.ne_of_lt (Nat.lt_of_lt_of_le (by have := World.block_lt_of_cell? _ _ hx174_0; first | rwa [add_block] at this | exact this) GW173.out); have hn174_1 : ad172.block ≠ gb173 := Nat.ne_of_lt (Nat.lt_of_lt_of_le (by have := World.block_lt_of_cell? _ _ hx174_0; first | rwa [add_block] at this | exact this) GW173.out); have hn174_2 : ad172.block ≠ gb173 := Nat.ne_of_lt (Nat.lt_of_lt_of_le (by have := World.block_lt_of_cell? _ _ hx174_0; first | rwa [add_block] at this | exact this) GW173.out); replace hx174_0 := (HB.out.cell (World.block_lt_of_cell? w _ hx174_0)).trans hx174_0; replace hx174_1 := (HB.out.cell (World.block_lt_of_cell? w _ hx174_1)).trans hx174_1; replace hx174_2 := (HB.out.cell (World.block_lt_of_cell? w _ hx174_2)).trans hx174_2; replace hx174_0 := (cell_far (p := ⟨gb173, 0, none⟩) (by first | (rw [add_block]; exact hn174_0) | exact hn174_0) (.int .i64 ((rd_T39 l0 (ji12)).f0))).trans hx174_0; replace hx174_1 := (cell_far (p := ⟨gb173, 0, none⟩) (by first | (rw [add_block]; exact hn174_0) | exact hn174_0) (.int .i64 ((rd_T39 l0 (ji12)).f0))).trans hx174_1; replace hx174_2 := (cell_far (p := ⟨gb173, 0, none⟩) (by first | (rw [add_block]; exact hn174_0) | exact hn174_0) (.int .i64 ((rd_T39 l0 (ji12)).f0))).trans hx174_2; replace hx174_0 := (cell_far (p := ⟨gb173, 1, none⟩) (by first | (rw [add_block]; exact hn174_1) | exact hn174_1) (.int .i64 ((rd_T39 l0 (ji12)).f1))).trans hx174_0; replace hx174_1 := (cell_far (p := ⟨gb173, 1, none⟩) (by first | (rw [add_block]; exact hn174_1) | exact hn174_1) (.int .i64 ((rd_T39 l0 (ji12)).f1))).trans hx174_1; replace hx174_2 := (cell_far (p := ⟨gb173, 1, none⟩) (by first | (rw [add_block]; exact hn174_1) | exact hn174_1) (.int .i64 ((rd_T39 l0 (ji12)).f1))).trans hx174_2; replace hx174_0 := (cell_far (p := ⟨gb173, 2, none⟩) (by first | (rw [add_block]; exact hn174_2) | exact hn174_2) (.int .i64 ((rd_T39 l0 (ji12)).f2))).trans hx174_0; replace hx174_1 := (cell_far (p := ⟨gb173, 2, none⟩) (by first | (rw [add_block]; exact hn174_2) | exact hn174_2) (.int .i64 ((rd_T39 l0 (ji12)).f2))).trans hx174_1; replace hx174_2 := (cell_far (p := ⟨gb173, 2, none⟩) (by first | (rw [add_block]; exact hn174_2) | exact hn174_2) (.int .i64 ((rd_T39 l0 (ji12)).f2))).trans hx174_2; (try have hy174_0 := fun (n_ : Nat) => (show (((((w24.drewN n_).setCell ⟨gb173, 0, none⟩ (.int .i64 ((rd_T39 l0 (ji12)).f0))).setCell ⟨gb173, 1, none⟩ (.int .i64 ((rd_T39 l0 (ji12)).f1))).setCell ⟨gb173, 2, none⟩ (.int .i64 ((rd_T39 l0 (ji12)).f2)))).cell? _ = some _ from hx174_0)); (try have hy174_1 := fun (n_ : Nat) => (show (((((w24.drewN n_).setCell ⟨gb173, 0, none⟩ (.int .i64 ((rd_T39 l0 (ji12)).f0))).setCell ⟨gb173, 1, none⟩ (.int .i64 ((rd_T39 l0 (ji12)).f1))).setCell ⟨gb173, 2, none⟩ (.int .i64 ((rd_T39 l0 (ji12)).f2)))).cell? _ = some _ from hx174_1)); (try have hy174_2 := fun (n_ : Nat) => (show (((((w24.drewN n_).setCell ⟨gb173, 0, none⟩ (.int .i64 ((rd_T39 l0 (ji12)).f0))).setCell ⟨gb173, 1, none⟩ (.int .i64 ((rd_T39 l0 (ji12)).f1))).setCell ⟨gb173, 2, none⟩ (.int .i64 ((rd_T39 l0 (ji12)).f2)))).cell? _ = some _ from hx174_2)); clear hn174_0; clear hn174_1; clear hn174_2; replace p174 := eq_true p174; replace q174 := eq_true q174; have p175 : 0 ≤ (x3_1 : Int) := of_decide_eq_true (by with_reducible assumption); have q175 : x3_1 < (l0.length : Int) := of_decide_eq_true (by with_reducible assumption); obtain ⟨ad175, e175, hx175_0, hx175_1, hx175_2⟩ := at_T39 HR0.out x3_1 p175 q175; obtain rfl : ad172 = ad175 := (by injection e175); have hn175_0 : ad172.block ≠ gb173 := Nat.ne_of_lt (Nat.lt_of_lt_of_le (by have := World.block_lt_of_cell? _ _ hx175_0; first | rwa [add_block] at this | exact this) GW173.out); have hn175_1 : ad172.block ≠ gb173 := Nat.ne_of_lt (Nat.lt_of_lt_of_le (by have := World.block_lt_of_cell? _ _ hx175_0; first | rwa [add_block] at this | exact this) GW173.out); have hn175_2 : ad172.block ≠ gb173 := Nat.ne_of_lt (Nat.lt_of_lt_of_le (by have := World.block_lt_of_cell? _ _ hx175_0; first | rwa [add_block] at this | exact this) GW173.out); replace hx175_0 := (HB.out.cell (World.block_lt_of_cell? w _ hx175_0)).trans hx175_0; replace hx175_1 := (HB.out.cell (World.block_lt_of_cell? w _ hx175_1)).trans hx175_1; replace hx175_2 := (HB.out.cell (World.block_lt_of_cell? w _ hx175_2)).trans hx175_2; replace hx175_0 := (cell_far (p := ⟨gb173, 0, none⟩) (by first | (rw [add_block]; exact hn175_0) | exact hn175_0) (.int .i64 ((rd_T39 l0 (ji12)).f0))).trans hx175_0; replace hx175_1 := (cell_far (p := ⟨gb173, 0, none⟩) (by first | (rw [add_block]; exact hn175_0) | exact hn175_0) (.int .i64 ((rd_T39 l0 (ji12)).f0))).trans hx175_1; replace hx175_2 := (cell_far (p := ⟨gb173, 0, none⟩) (by first | (rw [add_block]; exact hn175_0) | exact hn175_0) (.int .i64 ((rd_T39 l0 (ji12)).f0))).trans hx175_2; replace hx175_0 := (cell_far (p := ⟨gb173, 1, none⟩) (by first | (rw [add_block]; exact hn175_1) | exact hn175_1) (.int .i64 ((rd_T39 l0 (ji12)).f1))).trans hx175_0; replace hx175_1 := (cell_far (p := ⟨gb173, 1, none⟩) (by first | (rw [add_block]; exact hn175_1) | exact hn175_1) (.int .i64 ((rd_T39 l0 (ji12)).f1))).trans hx175_1; replace hx175_2 := (cell_far (p := ⟨gb173, 1, none⟩) (by first | (rw [add_block]; exact hn175_1) | exact hn175_1) (.int .i64 ((rd_T39 l0 (ji12)).f1))).trans hx175_2; replace hx175_0 := (cell_far (p := ⟨gb173, 2, none⟩) (by first | (rw [add_block]; exact hn175_2) | exact hn175_2) (.int .i64 ((rd_T39 l0 (ji12)).f2))).trans hx175_0; replace hx175_1 := (cell_far (p := ⟨gb173, 2, none⟩) (by first | (rw [add_block]; exact hn175_2) | exact hn175_2) (.int .i64 ((rd_T39 l0 (ji12)).f2))).trans hx175_1; replace hx175_2 := (cell_far (p := ⟨gb173, 2, none⟩) (by first | (rw [add_block]; exact hn175_2) | exact hn175_2) (.int .i64 ((rd_T39 l0 (ji12)).f2))).trans hx175_2; (try have hy175_0 := fun (n_ : Nat) => (show (((((w24.drewN n_).setCell ⟨gb173, 0, none⟩ (.int .i64 ((rd_T39 l0 (ji12)).f0))).setCell ⟨gb173, 1, none⟩ (.int .i64 ((rd_T39 l0 (ji12)).f1))).setCell ⟨gb173, 2, none⟩ (.int .i64 ((rd_T39 l0 (ji12)).f2)))).cell? _ = some _ from hx175_0)); (try have hy175_1 := fun (n_ : Nat) => (show (((((w24.drewN n_).setCell ⟨gb173, 0, none⟩ (.int .i64 ((rd_T39 l0 (ji12)).f0))).setCell ⟨gb173, 1, none⟩ (.int .i64 ((rd_T39 l0 (ji12)).f1))).setCell ⟨gb173, 2, none⟩ (.int .i64 ((rd_T39 l0 (ji12)).f2)))).cell? _ = some _ from hx175_1)); (try have hy175_2 := fun (n_ : Nat) => (show (((((w24.drewN n_).setCell ⟨gb173, 0, none⟩ (.int .i64 ((rd_T39 l0 (ji12)).f0))).setCell ⟨gb173, 1, none⟩ (.int .i64 ((rd_T39 l0 (ji12)).f1))).setCell ⟨gb173, 2, none⟩ (.int .i64 ((rd_T39 l0 (ji12)).f2)))).cell? _ = some _ from hx175_2)); clear hn175_0; clear hn175_1; clear hn175_2; replace p175 := eq_true p175; replace q175 := eq_true q175; have p176 : 0 ≤ (x3_1 : Int) := of_decide_eq_true (by with_reducible assumption); have q176 : x3_1 < (l0.length : Int) := of_decide_eq_true (by with_reducible assumption); obtain ⟨ad176, e176, hx176_0, hx176_1, hx176_2⟩ := at_T39 HR0.out x3_1 p176 q176; obtain rfl : ad172 = ad176 := (by injection e176); have hn176_0 : ad172.block ≠ gb173 := Nat.ne_of_lt (Nat.lt_of_lt_of_le (by have := World.block_lt_of_cell? _ _ hx176_0; first | rwa [add_block] at this | exact this) GW173.out); have hn176_1 : ad172.block ≠ gb173 := Nat.ne_of_lt (Nat.lt_of_lt_of_le (by have := World.block_lt_of_cell? _ _ hx176_0; first | rwa [add_block] at this | exact this) GW173.out); have hn176_2 : ad172.block ≠ gb173 := Nat.ne_of_lt (Nat.lt_of_lt_of_le (by have := World.block_lt_of_cell? _ _ hx176_0; first | rwa [add_block] at this | exact this) GW173.out); replace hx176_0 := (HB.out.cell (World.block_lt_of_cell? w _ hx176_0)).trans hx176_0; replace hx176_1 := (HB.out.cell (World.block_lt_of_cell? w _ hx176_1)).trans hx176_1; replace hx176_2 := (HB.out.cell (World.block_lt_of_cell? w _ hx176_2)).trans hx176_2; replace hx176_0 := (cell_far (p := ⟨gb173, 0, none⟩) (by first | (rw [add_block]; exact hn176_0) | exact hn176_0) (.int .i64 ((rd_T39 l0 (ji12)).f0))).trans hx176_0; replace hx176_1 := (cell_far (p := ⟨gb173, 0, none⟩) (by first | (rw [add_block]; exact hn176_0) | exact hn176_0) (.int .i64 ((rd_T39 l0 (ji12)).f0))).trans hx176_1; replace hx176_2 := (cell_far (p := ⟨gb173, 0, none⟩) (by first | (rw [add_block]; exact hn176_0) | exact hn176_0) (.int .i64 ((rd_T39 l0 (ji12)).f0))).trans hx176_2; replace hx176_0 := (cell_far (p := ⟨gb173, 1, none⟩) (by first | (rw [add_block]; exact hn176_1) | exact hn176_1) (.int .i64 ((rd_T39 l0 (ji12)).f1))).trans hx176_0; replace hx176_1 := (cell_far (p := ⟨gb173, 1, none⟩) (by first | (rw [add_block]; exact hn176_1) | exact hn176_1) (.int .i64 ((rd_T39 l0 (ji12)).f1))).trans hx176_1; replace hx176_2 := (cell_far (p := ⟨gb173, 1, none⟩) (by first | (rw [add_block]; exact hn176_1) | exact hn176_1) (.int .i64 ((rd_T39 l0 (ji12)).f1))).trans hx176_2; replace hx176_0 := (cell_far (p := ⟨gb173, 2, none⟩) (by first | (rw [add_block]; exact hn176_2) | exact hn176_2) (.int .i64 ((rd_T39 l0 (ji12)).f2))).trans hx176_0; replace hx176_1 := (cell_far (p := ⟨gb173, 2, none⟩) (by first | (rw [add_block]; exact hn176_2) | exact hn176_2) (.int .i64 ((rd_T39 l0 (ji12)).f2))).trans hx176_1; replace hx176_2 := (cell_far (p := ⟨gb173, 2, none⟩) (by first | (rw [add_block]; exact hn176_2) | exact hn176_2) (.int .i64 ((rd_T39 l0 (ji12)).f2))).trans hx176_2; (try have hy176_0 := fun (n_ : Nat) => (show (((((w24.drewN n_).setCell ⟨gb173, 0, none⟩ (.int .i64 ((rd_T39 l0 (ji12)).f0))).setCell ⟨gb173, 1, none⟩ (.int .i64 ((rd_T39 l0 (ji12)).f1))).setCell ⟨gb173, 2, none⟩ (.int .i64 ((rd_T39 l0 (ji12)).f2)))).cell? _ = some _ from hx176_0)); (try have hy176_1 := fun (n_ : Nat) => (show (((((w24.drewN n_).setCell ⟨gb173, 0, none⟩ (.int .i64 ((rd_T39 l0 (ji12)).f0))).setCell ⟨gb173, 1, none⟩ (.int .i64 ((rd_T39 l0 (ji12)).f1))).setCell ⟨gb173, 2, none⟩ (.int .i64 ((rd_T39 l0 (ji12)).f2)))).cell? _ = some _ from hx176_1)); (try have hy176_2 := fun (n_ : Nat) => (show (((((w24.drewN n_).setCell ⟨gb173, 0, none⟩ (.int .i64 ((rd_T39 l0 (ji12)).f0))).setCell ⟨gb173, 1, none⟩ (.int .i64 ((rd_T39 l0 (ji12)).f1))).setCell ⟨gb173, 2, none⟩ (.int .i64 ((rd_T39 l0 (ji12)).f2)))).cell? _ = some _ from hx176_2)); clear hn176_0; clear hn176_1; clear hn176_2; replace p176 := eq_true p176; replace q176 := eq_true q176))
                              repeat (go_quiet (fail); try go_wp2_with (first | ((with_reducible refine gate_dst (N := 4) rfl ?_); refine box_event ?hg (N := 4) ?hd (cs := #[.int .i64 0, .int .i64 0, .int .i64 0]) (t := 39) ?hr ?_; (case hd => rfl); (case hg => rfl); (case hr => first | (go_simp; done) | (go_simp; rfl)); intro gb173 hg w24 hbox hb; have n0_ := Aside0.mk (below_step (by repeat with_reducible first | exact HB.out | apply below_alloc | apply pw_below_drewN | apply below_drew1) hb); have n1_ := Aside0.mk (hbox); have n2_ := Aside0.mk ((by rw [hg]; exact (below_size (by repeat with_reducible first | exact HB.out | apply below_alloc | apply pw_below_drewN | apply below_drew1)) : w.heap.size ≤ gb173)); have n3_ := Aside0.mk ((by rw [hg]; exact (below_size (by repeat with_reducible first | exact HB.out | apply below_alloc | apply pw_below_drewN | apply below_drew1)) : w.heap.size ≤ gb173)); clear HB; have HB := n0_; have BK173 := n1_; have GW173 := n2_; have GE173 := n3_; clear n0_ n1_ n2_ n3_; clear hb hbox hg; have hcz25_0 : w24.cell? ⟨gb173, 0, none⟩ = some (.int .i64 0) := (blk_cell BK173.out 0).trans rfl; have hcz25_1 : w24.cell? ⟨gb173, 1, none⟩ = some (.int .i64 0) := (blk_cell BK173.out 1).trans rfl; have hcz25_2 : w24.cell? ⟨gb173, 2, none⟩ = some (.int .i64 0) := (blk_cell BK173.out 2).trans rfl; have hfz25_0 := blk_frozen BK173.out 0; have hfz25_1 := blk_frozen BK173.out 1; have hfz25_2 := blk_frozen BK173.out 2; have p174 : 0 ≤ (x3_1 : Int) := of_decide_eq_true (by with_reducible assumption); have q174 : x3_1 < (l0.length : Int) := of_decide_eq_true (by with_reducible assumption); obtain ⟨ad174, e174, hx174_0, hx174_1, hx174_2⟩ := at_T39 HR0.out x3_1 p174 q174; obtain rfl : ad172 = ad174 := (by injection e174); have hn174_0 : ad172.block ≠ gb173 := Nat.ne_of_lt (Nat.lt_of_lt_of_le (by have := World.block_lt_of_cell? _ _ hx174_0; first | rwa [add_block] at this | exact this) GW173.out); have hn174_1 : ad172.block ≠ gb173 := Nat.ne_of_lt (Nat.lt_of_lt_of_le (by have := World.block_lt_of_cell? _ _ hx174_0; first | rwa [add_block] at this | exact this) GW173.out); have hn174_2 : ad172.block ≠ gb173 := Nat.ne_of_lt (Nat.lt_of_lt_of_le (by have := World.block_lt_of_cell? _ _ hx174_0; first | rwa [add_block] at this | exact this) GW173.out); replace hx174_0 := (HB.out.cell (World.block_lt_of_cell? w _ hx174_0)).trans hx174_0; replace hx174_1 := (HB.out.cell (World.block_lt_of_cell? w _ hx174_1)).trans hx174_1; replace hx174_2 := (HB.out.cell (World.block_lt_of_cell? w _ hx174_2)).trans hx174_2; replace hx174_0 := (cell_far (p := ⟨gb173, 0, none⟩) (by first | (rw [add_block]; exact hn174_0) | exact hn174_0) (.int .i64 ((rd_T39 l0 (ji12)).f0))).trans hx174_0; replace hx174_1 := (cell_far (p := ⟨gb173, 0, none⟩) (by first | (rw [add_block]; exact hn174_0) | exact hn174_0) (.int .i64 ((rd_T39 l0 (ji12)).f0))).trans hx174_1; replace hx174_2 := (cell_far (p := ⟨gb173, 0, none⟩) (by first | (rw [add_block]; exact hn174_0) | exact hn174_0) (.int .i64 ((rd_T39 l0 (ji12)).f0))).trans hx174_2; replace hx174_0 := (cell_far (p := ⟨gb173, 1, none⟩) (by first | (rw [add_block]; exact hn174_1) | exact hn174_1) (.int .i64 ((rd_T39 l0 (ji12)).f1))).trans hx174_0; replace hx174_1 := (cell_far (p := ⟨gb173, 1, none⟩) (by first | (rw [add_block]; exact hn174_1) | exact hn174_1) (.int .i64 ((rd_T39 l0 (ji12)).f1))).trans hx174_1; replace hx174_2 := (cell_far (p := ⟨gb173, 1, none⟩) (by first | (rw [add_block]; exact hn174_1) | exact hn174_1) (.int .i64 ((rd_T39 l0 (ji12)).f1))).trans hx174_2; replace hx174_0 := (cell_far (p := ⟨gb173, 2, none⟩) (by first | (rw [add_block]; exact hn174_2) | exact hn174_2) (.int .i64 ((rd_T39 l0 (ji12)).f2))).trans hx174_0; replace hx174_1 := (cell_far (p := ⟨gb173, 2, none⟩) (by first | (rw [add_block]; exact hn174_2) | exact hn174_2) (.int .i64 ((rd_T39 l0 (ji12)).f2))).trans hx174_1; replace hx174_2 := (cell_far (p := ⟨gb173, 2, none⟩) (by first | (rw [add_block]; exact hn174_2) | exact hn174_2) (.int .i64 ((rd_T39 l0 (ji12)).f2))).trans hx174_2; (try have hy174_0 := fun (n_ : Nat) => (show (((((w24.drewN n_).setCell ⟨gb173, 0, none⟩ (.int .i64 ((rd_T39 l0 (ji12)).f0))).setCell ⟨gb173, 1, none⟩ (.int .i64 ((rd_T39 l0 (ji12)).f1))).setCell ⟨gb173, 2, none⟩ (.int .i64 ((rd_T39 l0 (ji12)).f2)))).cell? _ = some _ from hx174_0)); (try have hy174_1 := fun (n_ : Nat) => (show (((((w24.drewN n_).setCell ⟨gb173, 0, none⟩ (.int .i64 ((rd_T39 l0 (ji12)).f0))).setCell ⟨gb173, 1, none⟩ (.int .i64 ((rd_T39 l0 (ji12)).f1))).setCell ⟨gb173, 2, none⟩ (.int .i64 ((rd_T39 l0 (ji12)).f2)))).cell? _ = some _ from hx174_1)); (try have hy174_2 := fun (n_ : Nat) => (show (((((w24.drewN n_).setCell ⟨gb173, 0, none⟩ (.int .i64 ((rd_T39 l0 (ji12)).f0))).setCell ⟨gb173, 1, none⟩ (.int .i64 ((rd_T39 l0 (ji12)).f1))).setCell ⟨gb173, 2, none⟩ (.int .i64 ((rd_T39 l0 (ji12)).f2)))).cell? _ = some _ from hx174_2)); clear hn174_0; clear hn174_1; clear hn174_2; replace p174 := eq_true p174; replace q174 := eq_true q174; have p175 : 0 ≤ (x3_1 : Int) := of_decide_eq_true (by with_reducible assumption); have q175 : x3_1 < (l0.length : Int) := of_decide_eq_true (by with_reducible assumption); obtain ⟨ad175, e175, hx175_0, hx175_1, hx175_2⟩ := at_T39 HR0.out x3_1 p175 q175; obtain rfl : ad172 = ad175 := (by injection e175); have hn175_0 : ad172.block ≠ gb173 := Nat.ne_of_lt (Nat.lt_of_lt_of_le (by have := World.block_lt_of_cell? _ _ hx175_0; first | rwa [add_block] at this | exact this) GW173.out); have hn175_1 : ad172.block ≠ gb173 := Nat.ne_of_lt (Nat.lt_of_lt_of_le (by have := World.block_lt_of_cell? _ _ hx175_0; first | rwa [add_block] at this | exact this) GW173.out); have hn175_2 : ad172.block ≠ gb173 := Nat.ne_of_lt (Nat.lt_of_lt_of_le (by have := World.block_lt_of_cell? _ _ hx175_0; first | rwa [add_block] at this | exact this) GW173.out); replace hx175_0 := (HB.out.cell (World.block_lt_of_cell? w _ hx175_0)).trans hx175_0; replace hx175_1 := (HB.out.cell (World.block_lt_of_cell? w _ hx175_1)).trans hx175_1; replace hx175_2 := (HB.out.cell (World.block_lt_of_cell? w _ hx175_2)).trans hx175_2; replace hx175_0 := (cell_far (p := ⟨gb173, 0, none⟩) (by first | (rw [add_block]; exact hn175_0) | exact hn175_0) (.int .i64 ((rd_T39 l0 (ji12)).f0))).trans hx175_0; replace hx175_1 := (cell_far (p := ⟨gb173, 0, none⟩) (by first | (rw [add_block]; exact hn175_0) | exact hn175_0) (.int .i64 ((rd_T39 l0 (ji12)).f0))).trans hx175_1; replace hx175_2 := (cell_far (p := ⟨gb173, 0, none⟩) (by first | (rw [add_block]; exact hn175_0) | exact hn175_0) (.int .i64 ((rd_T39 l0 (ji12)).f0))).trans hx175_2; replace hx175_0 := (cell_far (p := ⟨gb173, 1, none⟩) (by first | (rw [add_block]; exact hn175_1) | exact hn175_1) (.int .i64 ((rd_T39 l0 (ji12)).f1))).trans hx175_0; replace hx175_1 := (cell_far (p := ⟨gb173, 1, none⟩) (by first | (rw [add_block]; exact hn175_1) | exact hn175_1) (.int .i64 ((rd_T39 l0 (ji12)).f1))).trans hx175_1; replace hx175_2 := (cell_far (p := ⟨gb173, 1, none⟩) (by first | (rw [add_block]; exact hn175_1) | exact hn175_1) (.int .i64 ((rd_T39 l0 (ji12)).f1))).trans hx175_2; replace hx175_0 := (cell_far (p := ⟨gb173, 2, none⟩) (by first | (rw [add_block]; exact hn175_2) | exact hn175_2) (.int .i64 ((rd_T39 l0 (ji12)).f2))).trans hx175_0; replace hx175_1 := (cell_far (p := ⟨gb173, 2, none⟩) (by first | (rw [add_block]; exact hn175_2) | exact hn175_2) (.int .i64 ((rd_T39 l0 (ji12)).f2))).trans hx175_1; replace hx175_2 := (cell_far (p := ⟨gb173, 2, none⟩) (by first | (rw [add_block]; exact hn175_2) | exact hn175_2) (.int .i64 ((rd_T39 l0 (ji12)).f2))).trans hx175_2; (try have hy175_0 := fun (n_ : Nat) => (show (((((w24.drewN n_).setCell ⟨gb173, 0, none⟩ (.int .i64 ((rd_T39 l0 (ji12)).f0))).setCell ⟨gb173, 1, none⟩ (.int .i64 ((rd_T39 l0 (ji12)).f1))).setCell ⟨gb173, 2, none⟩ (.int .i64 ((rd_T39 l0 (ji12)).f2)))).cell? _ = some _ from hx175_0)); (try have hy175_1 := fun (n_ : Nat) => (show (((((w24.drewN n_).setCell ⟨gb173, 0, none⟩ (.int .i64 ((rd_T39 l0 (ji12)).f0))).setCell ⟨gb173, 1, none⟩ (.int .i64 ((rd_T39 l0 (ji12)).f1))).setCell ⟨gb173, 2, none⟩ (.int .i64 ((rd_T39 l0 (ji12)).f2)))).cell? _ = some _ from hx175_1)); (try have hy175_2 := fun (n_ : Nat) => (show (((((w24.drewN n_).setCell ⟨gb173, 0, none⟩ (.int .i64 ((rd_T39 l0 (ji12)).f0))).setCell ⟨gb173, 1, none⟩ (.int .i64 ((rd_T39 l0 (ji12)).f1))).setCell ⟨gb173, 2, none⟩ (.int .i64 ((rd_T39 l0 (ji12)).f2)))).cell? _ = some _ from hx175_2)); clear hn175_0; clear hn175_1; clear hn175_2; replace p175 := eq_true p175; replace q175 := eq_true q175; have p176 : 0 ≤ (x3_1 : Int) := of_decide_eq_true (by with_reducible assumption); have q176 : x3_1 < (l0.length : Int) := of_decide_eq_true (by with_reducible assumption); obtain ⟨ad176, e176, hx176_0, hx176_1, hx176_2⟩ := at_T39 HR0.out x3_1 p176 q176; obtain rfl : ad172 = ad176 := (by injection e176); have hn176_0 : ad172.block ≠ gb173 := Nat.ne_of_lt (Nat.lt_of_lt_of_le (by have := World.block_lt_of_cell? _ _ hx176_0; first | rwa [add_block] at this | exact this) GW173.out); have hn176_1 : ad172.block ≠ gb173 := Nat.ne_of_lt (Nat.lt_of_lt_of_le (by have := World.block_lt_of_cell? _ _ hx176_0; first | rwa [add_block] at this | exact this) GW173.out); have hn176_2 : ad172.block ≠ gb173 := Nat.ne_of_lt (Nat.lt_of_lt_of_le (by have := World.block_lt_of_cell? _ _ hx176_0; first | rwa [add_block] at this | exact this) GW173.out); replace hx176_0 := (HB.out.cell (World.block_lt_of_cell? w _ hx176_0)).trans hx176_0; replace hx176_1 := (HB.out.cell (World.block_lt_of_cell? w _ hx176_1)).trans hx176_1; replace hx176_2 := (HB.out.cell (World.block_lt_of_cell? w _ hx176_2)).trans hx176_2; replace hx176_0 := (cell_far (p := ⟨gb173, 0, none⟩) (by first | (rw [add_block]; exact hn176_0) | exact hn176_0) (.int .i64 ((rd_T39 l0 (ji12)).f0))).trans hx176_0; replace hx176_1 := (cell_far (p := ⟨gb173, 0, none⟩) (by first | (rw [add_block]; exact hn176_0) | exact hn176_0) (.int .i64 ((rd_T39 l0 (ji12)).f0))).trans hx176_1; replace hx176_2 := (cell_far (p := ⟨gb173, 0, none⟩) (by first | (rw [add_block]; exact hn176_0) | exact hn176_0) (.int .i64 ((rd_T39 l0 (ji12)).f0))).trans hx176_2; replace hx176_0 := (cell_far (p := ⟨gb173, 1, none⟩) (by first | (rw [add_block]; exact hn176_1) | exact hn176_1) (.int .i64 ((rd_T39 l0 (ji12)).f1))).trans hx176_0; replace hx176_1 := (cell_far (p := ⟨gb173, 1, none⟩) (by first | (rw [add_block]; exact hn176_1) | exact hn176_1) (.int .i64 ((rd_T39 l0 (ji12)).f1))).trans hx176_1; replace hx176_2 := (cell_far (p := ⟨gb173, 1, none⟩) (by first | (rw [add_block]; exact hn176_1) | exact hn176_1) (.int .i64 ((rd_T39 l0 (ji12)).f1))).trans hx176_2; replace hx176_0 := (cell_far (p := ⟨gb173, 2, none⟩) (by first | (rw [add_block]; exact hn176_2) | exact hn176_2) (.int .i64 ((rd_T39 l0 (ji12)).f2))).trans hx176_0; replace hx176_1 := (cell_far (p := ⟨gb173, 2, none⟩) (by first | (rw [add_block]; exact hn176_2) | exact hn176_2) (.int .i64 ((rd_T39 l0 (ji12)).f2))).trans hx176_1; replace hx176_2 := (cell_far (p := ⟨gb173, 2, none⟩) (by first | (rw [add_block]; exact hn176_2) | exact hn176_2) (.int .i64 ((rd_T39 l0 (ji12)).f2))).trans hx176_2; (try have hy176_0 := fun (n_ : Nat) => (show (((((w24.drewN n_).setCell ⟨gb173, 0, none⟩ (.int .i64 ((rd_T39 l0 (ji12)).f0))).setCell ⟨gb173, 1, none⟩ (.int .i64 ((rd_T39 l0 (ji12)).f1))).setCell ⟨gb173, 2, none⟩ (.int .i64 ((rd_T39 l0 (ji12)).f2)))).cell? _ = some _ from hx176_0)); (try have hy176_1 := fun (n_ : Nat) => (show (((((w24.drewN n_).setCell ⟨gb173, 0, none⟩ (.int .i64 ((rd_T39 l0 (ji12)).f0))).setCell ⟨gb173, 1, none⟩ (.int .i64 ((rd_T39 l0 (ji12)).f1))).setCell ⟨gb173, 2, none⟩ (.int .i64 ((rd_T39 l0 (ji12)).f2)))).cell? _ = some _ from hx176_1)); (try have hy176_2 := fun (n_ : Nat) => (show (((((w24.drewN n_).setCell ⟨gb173, 0, none⟩ (.int .i64 ((rd_T39 l0 (ji12)).f0))).setCell ⟨gb173, 1, none⟩ (.int .i64 ((rd_T39 l0 (ji12)).f1))).setCell ⟨gb173, 2, none⟩ (.int .i64 ((rd_T39 l0 (ji12)).f2)))).cell? _ = some _ from hx176_2)); clear hn176_0; clear hn176_1; clear hn176_2; replace p176 := eq_true p176; replace q176 := eq_true q176)))
                              go_roundg kj2
                              case measure => have := HK1.out; have := HJ2.out; omega
                              case rel => exact ⟨(wrap64 (x3_1 + 1)), (by first | rfl | (simp; done) | (simp [*]; done)), H', ⟨by have := HK1.out; have := HJ2.out; omega⟩, ⟨by repeat (first | (with_reducible first | exact HB.out | apply below_alloc | apply pw_below_drewN | apply below_drew1 | refine below_set ?_ GE173.out) | exact HB.out)⟩⟩
                          · rw [if_neg c20] at H
                            have c20b0 : ((wrap64 (((rd_T39 l0 (ji12)).f0) + ((rd_T39 l0 (ji12)).f1))) == ((rd_T39 l0 x3_1).f0)) = false := beq_eq_false_iff_ne.mpr c20
                            have c20b1 : ((wrap64 (((rd_T39 l0 (ji12)).f0) + ((rd_T39 l0 (ji12)).f1))) != ((rd_T39 l0 x3_1).f0)) = true := bne_iff_ne.mpr c20
                            have H' := Aside0.mk H
                            clear H
                            have p172 : 0 ≤ ((ji12) : Int) := of_decide_eq_true (by with_reducible assumption)
                            have q172 : (ji12) < (l0.length : Int) := of_decide_eq_true (by with_reducible assumption)
                            obtain ⟨ad172, e172, hx172_0, hx172_1, hx172_2⟩ := at_T39 HR0.out (ji12) p172 q172
                            cases e172
                            replace hx172_0 := (HB.out.cell (World.block_lt_of_cell? w _ hx172_0)).trans hx172_0
                            replace hx172_1 := (HB.out.cell (World.block_lt_of_cell? w _ hx172_1)).trans hx172_1
                            replace hx172_2 := (HB.out.cell (World.block_lt_of_cell? w _ hx172_2)).trans hx172_2
                            replace p172 := eq_true p172
                            replace q172 := eq_true q172
                            go_wp2_with (first | ((with_reducible refine gate_dst (N := 4) rfl ?_); refine box_event ?hg (N := 4) ?hd (cs := #[.int .i64 0, .int .i64 0, .int .i64 0]) (t := 39) ?hr ?_; (case hd => rfl); (case hg => rfl); (case hr => first | (go_simp; done) | (go_simp; rfl)); intro gb173 hg w26 hbox hb; have n0_ := Aside0.mk (below_step (by repeat with_reducible first | exact HB.out | apply below_alloc | apply pw_below_drewN | apply below_drew1) hb); have n1_ := Aside0.mk (hbox); have n2_ := Aside0.mk ((by rw [hg]; exact (below_size (by repeat with_reducible first | exact HB.out | apply below_alloc | apply pw_below_drewN | apply below_drew1)) : w.heap.size ≤ gb173)); have n3_ := Aside0.mk ((by rw [hg]; exact (below_size (by repeat with_reducible first | exact HB.out | apply below_alloc | apply pw_below_drewN | apply below_drew1)) : w.heap.size ≤ gb173)); clear HB; have HB := n0_; have BK173 := n1_; have GW173 := n2_; have GE173 := n3_; clear n0_ n1_ n2_ n3_; clear hb hbox hg; have hcz27_0 : w26.cell? ⟨gb173, 0, none⟩ = some (.int .i64 0) := (blk_cell BK173.out 0).trans rfl; have hcz27_1 : w26.cell? ⟨gb173, 1, none⟩ = some (.int .i64 0) := (blk_cell BK173.out 1).trans rfl; have hcz27_2 : w26.cell? ⟨gb173, 2, none⟩ = some (.int .i64 0) := (blk_cell BK173.out 2).trans rfl; have hfz27_0 := blk_frozen BK173.out 0; have hfz27_1 := blk_frozen BK173.out 1; have hfz27_2 := blk_frozen BK173.out 2; have p174 : 0 ≤ (x3_1 : Int) := of_decide_eq_true (by with_reducible assumption); have q174 : x3_1 < (l0.length : Int) := of_decide_eq_true (by with_reducible assumption); obtain ⟨ad174, e174, hx174_0, hx174_1, hx174_2⟩ := at_T39 HR0.out x3_1 p174 q174; obtain rfl : ad172 = ad174 := (by injection e174); have hn174_0 : ad172.block ≠ gb173 := Nat.ne_of_lt (Nat.lt_of_lt_of_le (by have := World.block_lt_of_cell? _ _ hx174_0; first | rwa [add_block] at this | exact this) GW173.out); have hn174_1 : ad172.block ≠ gb173 := Nat.ne_of_lt (Nat.lt_of_lt_of_le (by have := World.block_lt_of_cell? _ _ hx174_0; first | rwa [add_block] at this | exact this) GW173.out); have hn174_2 : ad172.block ≠ gb173 := Nat.ne_of_lt (Nat.lt_of_lt_of_le (by have := World.block_lt_of_cell? _ _ hx174_0; first | rwa [add_block] at this | exact this) GW173.out); replace hx174_0 := (HB.out.cell (World.block_lt_of_cell? w _ hx174_0)).trans hx174_0; replace hx174_1 := (HB.out.cell (World.block_lt_of_cell? w _ hx174_1)).trans hx174_1; replace hx174_2 := (HB.out.cell (World.block_lt_of_cell? w _ hx174_2)).trans hx174_2; replace hx174_0 := (cell_far (p := ⟨gb173, 0, none⟩) (by first | (rw [add_block]; exact hn174_0) | exact hn174_0) (.int .i64 ((rd_T39 l0 (ji12)).f0))).trans hx174_0; replace hx174_1 := (cell_far (p := ⟨gb173, 0, none⟩) (by first | (rw [add_block]; exact hn174_0) | exact hn174_0) (.int .i64 ((rd_T39 l0 (ji12)).f0))).trans hx174_1; replace hx174_2 := (cell_far (p := ⟨gb173, 0, none⟩) (by first | (rw [add_block]; exact hn174_0) | exact hn174_0) (.int .i64 ((rd_T39 l0 (ji12)).f0))).trans hx174_2; replace hx174_0 := (cell_far (p := ⟨gb173, 1, none⟩) (by first | (rw [add_block]; exact hn174_1) | exact hn174_1) (.int .i64 ((rd_T39 l0 (ji12)).f1))).trans hx174_0; replace hx174_1 := (cell_far (p := ⟨gb173, 1, none⟩) (by first | (rw [add_block]; exact hn174_1) | exact hn174_1) (.int .i64 ((rd_T39 l0 (ji12)).f1))).trans hx174_1; replace hx174_2 := (cell_far (p := ⟨gb173, 1, none⟩) (by first | (rw [add_block]; exact hn174_1) | exact hn174_1) (.int .i64 ((rd_T39 l0 (ji12)).f1))).trans hx174_2; replace hx174_0 := (cell_far (p := ⟨gb173, 2, none⟩) (by first | (rw [add_block]; exact hn174_2) | exact hn174_2) (.int .i64 ((rd_T39 l0 (ji12)).f2))).trans hx174_0; replace hx174_1 := (cell_far (p := ⟨gb173, 2, none⟩) (by first | (rw [add_block]; exact hn174_2) | exact hn174_2) (.int .i64 ((rd_T39 l0 (ji12)).f2))).trans hx174_1; replace hx174_2 := (cell_far (p := ⟨gb173, 2, none⟩) (by first | (rw [add_block]; exact hn174_2) | exact hn174_2) (.int .i64 ((rd_T39 l0 (ji12)).f2))).trans hx174_2; (try have hy174_0 := fun (n_ : Nat) => (show (((((w26.drewN n_).setCell ⟨gb173, 0, none⟩ (.int .i64 ((rd_T39 l0 (ji12)).f0))).setCell ⟨gb173, 1, none⟩ (.int .i64 ((rd_T39 l0 (ji12)).f1))).setCell ⟨gb173, 2, none⟩ (.int .i64 ((rd_T39 l0 (ji12)).f2)))).cell? _ = some _ from hx174_0)); (try have hy174_1 := fun (n_ : Nat) => (show (((((w26.drewN n_).setCell ⟨gb173, 0, none⟩ (.int .i64 ((rd_T39 l0 (ji12)).f0))).setCell ⟨gb173, 1, none⟩ (.int .i64 ((rd_T39 l0 (ji12)).f1))).setCell ⟨gb173, 2, none⟩ (.int .i64 ((rd_T39 l0 (ji12)).f2)))).cell? _ = some _ from hx174_1)); (try have hy174_2 := fun (n_ : Nat) => (show (((((w26.drewN n_).setCell ⟨gb173, 0, none⟩ (.int .i64 ((rd_T39 l0 (ji12)).f0))).setCell ⟨gb173, 1, none⟩ (.int .i64 ((rd_T39 l0 (ji12)).f1))).setCell ⟨gb173, 2, none⟩ (.int .i64 ((rd_T39 l0 (ji12)).f2)))).cell? _ = some _ from hx174_2)); clear hn174_0; clear hn174_1; clear hn174_2; replace p174 := eq_true p174; replace q174 := eq_true q174; have p175 : 0 ≤ (x3_1 : Int) := of_decide_eq_true (by with_reducible assumption); have q175 : x3_1 < (l0.length : Int) := of_decide_eq_true (by with_reducible assumption); obtain ⟨ad175, e175, hx175_0, hx175_1, hx175_2⟩ := at_T39 HR0.out x3_1 p175 q175; obtain rfl : ad172 = ad175 := (by injection e175); have hn175_0 : ad172.block ≠ gb173 := Nat.ne_of_lt (Nat.lt_of_lt_of_le (by have := World.block_lt_of_cell? _ _ hx175_0; first | rwa [add_block] at this | exact this) GW173.out); have hn175_1 : ad172.block ≠ gb173 := Nat.ne_of_lt (Nat.lt_of_lt_of_le (by have := World.block_lt_of_cell? _ _ hx175_0; first | rwa [add_block] at this | exact this) GW173.out); have hn175_2 : ad172.block ≠ gb173 := Nat.ne_of_lt (Nat.lt_of_lt_of_le (by have := World.block_lt_of_cell? _ _ hx175_0; first | rwa [add_block] at this | exact this) GW173.out); replace hx175_0 := (HB.out.cell (World.block_lt_of_cell? w _ hx175_0)).trans hx175_0; replace hx175_1 := (HB.out.cell (World.block_lt_of_cell? w _ hx175_1)).trans hx175_1; replace hx175_2 := (HB.out.cell (World.block_lt_of_cell? w _ hx175_2)).trans hx175_2; replace hx175_0 := (cell_far (p := ⟨gb173, 0, none⟩) (by first | (rw [add_block]; exact hn175_0) | exact hn175_0) (.int .i64 ((rd_T39 l0 (ji12)).f0))).trans hx175_0; replace hx175_1 := (cell_far (p := ⟨gb173, 0, none⟩) (by first | (rw [add_block]; exact hn175_0) | exact hn175_0) (.int .i64 ((rd_T39 l0 (ji12)).f0))).trans hx175_1; replace hx175_2 := (cell_far (p := ⟨gb173, 0, none⟩) (by first | (rw [add_block]; exact hn175_0) | exact hn175_0) (.int .i64 ((rd_T39 l0 (ji12)).f0))).trans hx175_2; replace hx175_0 := (cell_far (p := ⟨gb173, 1, none⟩) (by first | (rw [add_block]; exact hn175_1) | exact hn175_1) (.int .i64 ((rd_T39 l0 (ji12)).f1))).trans hx175_0; replace hx175_1 := (cell_far (p := ⟨gb173, 1, none⟩) (by first | (rw [add_block]; exact hn175_1) | exact hn175_1) (.int .i64 ((rd_T39 l0 (ji12)).f1))).trans hx175_1; replace hx175_2 := (cell_far (p := ⟨gb173, 1, none⟩) (by first | (rw [add_block]; exact hn175_1) | exact hn175_1) (.int .i64 ((rd_T39 l0 (ji12)).f1))).trans hx175_2; replace hx175_0 := (cell_far (p := ⟨gb173, 2, none⟩) (by first | (rw [add_block]; exact hn175_2) | exact hn175_2) (.int .i64 ((rd_T39 l0 (ji12)).f2))).trans hx175_0; replace hx175_1 := (cell_far (p := ⟨gb173, 2, none⟩) (by first | (rw [add_block]; exact hn175_2) | exact hn175_2) (.int .i64 ((rd_T39 l0 (ji12)).f2))).trans hx175_1; replace hx175_2 := (cell_far (p := ⟨gb173, 2, none⟩) (by first | (rw [add_block]; exact hn175_2) | exact hn175_2) (.int .i64 ((rd_T39 l0 (ji12)).f2))).trans hx175_2; (try have hy175_0 := fun (n_ : Nat) => (show (((((w26.drewN n_).setCell ⟨gb173, 0, none⟩ (.int .i64 ((rd_T39 l0 (ji12)).f0))).setCell ⟨gb173, 1, none⟩ (.int .i64 ((rd_T39 l0 (ji12)).f1))).setCell ⟨gb173, 2, none⟩ (.int .i64 ((rd_T39 l0 (ji12)).f2)))).cell? _ = some _ from hx175_0)); (try have hy175_1 := fun (n_ : Nat) => (show (((((w26.drewN n_).setCell ⟨gb173, 0, none⟩ (.int .i64 ((rd_T39 l0 (ji12)).f0))).setCell ⟨gb173, 1, none⟩ (.int .i64 ((rd_T39 l0 (ji12)).f1))).setCell ⟨gb173, 2, none⟩ (.int .i64 ((rd_T39 l0 (ji12)).f2)))).cell? _ = some _ from hx175_1)); (try have hy175_2 := fun (n_ : Nat) => (show (((((w26.drewN n_).setCell ⟨gb173, 0, none⟩ (.int .i64 ((rd_T39 l0 (ji12)).f0))).setCell ⟨gb173, 1, none⟩ (.int .i64 ((rd_T39 l0 (ji12)).f1))).setCell ⟨gb173, 2, none⟩ (.int .i64 ((rd_T39 l0 (ji12)).f2)))).cell? _ = some _ from hx175_2)); clear hn175_0; clear hn175_1; clear hn175_2; replace p175 := eq_true p175; replace q175 := eq_true q175))
                            repeat (go_quiet (fail); try go_wp2_with (first | ((with_reducible refine gate_dst (N := 4) rfl ?_); refine box_event ?hg (N := 4) ?hd (cs := #[.int .i64 0, .int .i64 0, .int .i64 0]) (t := 39) ?hr ?_; (case hd => rfl); (case hg => rfl); (case hr => first | (go_simp; done) | (go_simp; rfl)); intro gb173 hg w26 hbox hb; have n0_ := Aside0.mk (below_step (by repeat with_reducible first | exact HB.out | apply below_alloc | apply pw_below_drewN | apply below_drew1) hb); have n1_ := Aside0.mk (hbox); have n2_ := Aside0.mk ((by rw [hg]; exact (below_size (by repeat with_reducible first | exact HB.out | apply below_alloc | apply pw_below_drewN | apply below_drew1)) : w.heap.size ≤ gb173)); have n3_ := Aside0.mk ((by rw [hg]; exact (below_size (by repeat with_reducible first | exact HB.out | apply below_alloc | apply pw_below_drewN | apply below_drew1)) : w.heap.size ≤ gb173)); clear HB; have HB := n0_; have BK173 := n1_; have GW173 := n2_; have GE173 := n3_; clear n0_ n1_ n2_ n3_; clear hb hbox hg; have hcz27_0 : w26.cell? ⟨gb173, 0, none⟩ = some (.int .i64 0) := (blk_cell BK173.out 0).trans rfl; have hcz27_1 : w26.cell? ⟨gb173, 1, none⟩ = some (.int .i64 0) := (blk_cell BK173.out 1).trans rfl; have hcz27_2 : w26.cell? ⟨gb173, 2, none⟩ = some (.int .i64 0) := (blk_cell BK173.out 2).trans rfl; have hfz27_0 := blk_frozen BK173.out 0; have hfz27_1 := blk_frozen BK173.out 1; have hfz27_2 := blk_frozen BK173.out 2; have p174 : 0 ≤ (x3_1 : Int) := of_decide_eq_true (by with_reducible assumption); have q174 : x3_1 < (l0.length : Int) := of_decide_eq_true (by with_reducible assumption); obtain ⟨ad174, e174, hx174_0, hx174_1, hx174_2⟩ := at_T39 HR0.out x3_1 p174 q174; obtain rfl : ad172 = ad174 := (by injection e174); have hn174_0 : ad172.block ≠ gb173 := Nat.ne_of_lt (Nat.lt_of_lt_of_le (by have := World.block_lt_of_cell? _ _ hx174_0; first | rwa [add_block] at this | exact this) GW173.out); have hn174_1 : ad172.block ≠ gb173 := Nat.ne_of_lt (Nat.lt_of_lt_of_le (by have := World.block_lt_of_cell? _ _ hx174_0; first | rwa [add_block] at this | exact this) GW173.out); have hn174_2 : ad172.block ≠ gb173 := Nat.ne_of_lt (Nat.lt_of_lt_of_le (by have := World.block_lt_of_cell? _ _ hx174_0; first | rwa [add_block] at this | exact this) GW173.out); replace hx174_0 := (HB.out.cell (World.block_lt_of_cell? w _ hx174_0)).trans hx174_0; replace hx174_1 := (HB.out.cell (World.block_lt_of_cell? w _ hx174_1)).trans hx174_1; replace hx174_2 := (HB.out.cell (World.block_lt_of_cell? w _ hx174_2)).trans hx174_2; replace hx174_0 := (cell_far (p := ⟨gb173, 0, none⟩) (by first | (rw [add_block]; exact hn174_0) | exact hn174_0) (.int .i64 ((rd_T39 l0 (ji12)).f0))).trans hx174_0; replace hx174_1 := (cell_far (p := ⟨gb173, 0, none⟩) (by first | (rw [add_block]; exact hn174_0) | exact hn174_0) (.int .i64 ((rd_T39 l0 (ji12)).f0))).trans hx174_1; replace hx174_2 := (cell_far (p := ⟨gb173, 0, none⟩) (by first | (rw [add_block]; exact hn174_0) | exact hn174_0) (.int .i64 ((rd_T39 l0 (ji12)).f0))).trans hx174_2; replace hx174_0 := (cell_far (p := ⟨gb173, 1, none⟩) (by first | (rw [add_block]; exact hn174_1) | exact hn174_1) (.int .i64 ((rd_T39 l0 (ji12)).f1))).trans hx174_0; replace hx174_1 := (cell_far (p := ⟨gb173, 1, none⟩) (by first | (rw [add_block]; exact hn174_1) | exact hn174_1) (.int .i64 ((rd_T39 l0 (ji12)).f1))).trans hx174_1; replace hx174_2 := (cell_far (p := ⟨gb173, 1, none⟩) (by first | (rw [add_block]; exact hn174_1) | exact hn174_1) (.int .i64 ((rd_T39 l0 (ji12)).f1))).trans hx174_2; replace hx174_0 := (cell_far (p := ⟨gb173, 2, none⟩) (by first | (rw [add_block]; exact hn174_2) | exact hn174_2) (.int .i64 ((rd_T39 l0 (ji12)).f2))).trans hx174_0; replace hx174_1 := (cell_far (p := ⟨gb173, 2, none⟩) (by first | (rw [add_block]; exact hn174_2) | exact hn174_2) (.int .i64 ((rd_T39 l0 (ji12)).f2))).trans hx174_1; replace hx174_2 := (cell_far (p := ⟨gb173, 2, none⟩) (by first | (rw [add_block]; exact hn174_2) | exact hn174_2) (.int .i64 ((rd_T39 l0 (ji12)).f2))).trans hx174_2; (try have hy174_0 := fun (n_ : Nat) => (show (((((w26.drewN n_).setCell ⟨gb173, 0, none⟩ (.int .i64 ((rd_T39 l0 (ji12)).f0))).setCell ⟨gb173, 1, none⟩ (.int .i64 ((rd_T39 l0 (ji12)).f1))).setCell ⟨gb173, 2, none⟩ (.int .i64 ((rd_T39 l0 (ji12)).f2)))).cell? _ = some _ from hx174_0)); (try have hy174_1 := fun (n_ : Nat) => (show (((((w26.drewN n_).setCell ⟨gb173, 0, none⟩ (.int .i64 ((rd_T39 l0 (ji12)).f0))).setCell ⟨gb173, 1, none⟩ (.int .i64 ((rd_T39 l0 (ji12)).f1))).setCell ⟨gb173, 2, none⟩ (.int .i64 ((rd_T39 l0 (ji12)).f2)))).cell? _ = some _ from hx174_1)); (try have hy174_2 := fun (n_ : Nat) => (show (((((w26.drewN n_).setCell ⟨gb173, 0, none⟩ (.int .i64 ((rd_T39 l0 (ji12)).f0))).setCell ⟨gb173, 1, none⟩ (.int .i64 ((rd_T39 l0 (ji12)).f1))).setCell ⟨gb173, 2, none⟩ (.int .i64 ((rd_T39 l0 (ji12)).f2)))).cell? _ = some _ from hx174_2)); clear hn174_0; clear hn174_1; clear hn174_2; replace p174 := eq_true p174; replace q174 := eq_true q174; have p175 : 0 ≤ (x3_1 : Int) := of_decide_eq_true (by with_reducible assumption); have q175 : x3_1 < (l0.length : Int) := of_decide_eq_true (by with_reducible assumption); obtain ⟨ad175, e175, hx175_0, hx175_1, hx175_2⟩ := at_T39 HR0.out x3_1 p175 q175; obtain rfl : ad172 = ad175 := (by injection e175); have hn175_0 : ad172.block ≠ gb173 := Nat.ne_of_lt (Nat.lt_of_lt_of_le (by have := World.block_lt_of_cell? _ _ hx175_0; first | rwa [add_block] at this | exact this) GW173.out); have hn175_1 : ad172.block ≠ gb173 := Nat.ne_of_lt (Nat.lt_of_lt_of_le (by have := World.block_lt_of_cell? _ _ hx175_0; first | rwa [add_block] at this | exact this) GW173.out); have hn175_2 : ad172.block ≠ gb173 := Nat.ne_of_lt (Nat.lt_of_lt_of_le (by have := World.block_lt_of_cell? _ _ hx175_0; first | rwa [add_block] at this | exact this) GW173.out); replace hx175_0 := (HB.out.cell (World.block_lt_of_cell? w _ hx175_0)).trans hx175_0; replace hx175_1 := (HB.out.cell (World.block_lt_of_cell? w _ hx175_1)).trans hx175_1; replace hx175_2 := (HB.out.cell (World.block_lt_of_cell? w _ hx175_2)).trans hx175_2; replace hx175_0 := (cell_far (p := ⟨gb173, 0, none⟩) (by first | (rw [add_block]; exact hn175_0) | exact hn175_0) (.int .i64 ((rd_T39 l0 (ji12)).f0))).trans hx175_0; replace hx175_1 := (cell_far (p := ⟨gb173, 0, none⟩) (by first | (rw [add_block]; exact hn175_0) | exact hn175_0) (.int .i64 ((rd_T39 l0 (ji12)).f0))).trans hx175_1; replace hx175_2 := (cell_far (p := ⟨gb173, 0, none⟩) (by first | (rw [add_block]; exact hn175_0) | exact hn175_0) (.int .i64 ((rd_T39 l0 (ji12)).f0))).trans hx175_2; replace hx175_0 := (cell_far (p := ⟨gb173, 1, none⟩) (by first | (rw [add_block]; exact hn175_1) | exact hn175_1) (.int .i64 ((rd_T39 l0 (ji12)).f1))).trans hx175_0; replace hx175_1 := (cell_far (p := ⟨gb173, 1, none⟩) (by first | (rw [add_block]; exact hn175_1) | exact hn175_1) (.int .i64 ((rd_T39 l0 (ji12)).f1))).trans hx175_1; replace hx175_2 := (cell_far (p := ⟨gb173, 1, none⟩) (by first | (rw [add_block]; exact hn175_1) | exact hn175_1) (.int .i64 ((rd_T39 l0 (ji12)).f1))).trans hx175_2; replace hx175_0 := (cell_far (p := ⟨gb173, 2, none⟩) (by first | (rw [add_block]; exact hn175_2) | exact hn175_2) (.int .i64 ((rd_T39 l0 (ji12)).f2))).trans hx175_0; replace hx175_1 := (cell_far (p := ⟨gb173, 2, none⟩) (by first | (rw [add_block]; exact hn175_2) | exact hn175_2) (.int .i64 ((rd_T39 l0 (ji12)).f2))).trans hx175_1; replace hx175_2 := (cell_far (p := ⟨gb173, 2, none⟩) (by first | (rw [add_block]; exact hn175_2) | exact hn175_2) (.int .i64 ((rd_T39 l0 (ji12)).f2))).trans hx175_2; (try have hy175_0 := fun (n_ : Nat) => (show (((((w26.drewN n_).setCell ⟨gb173, 0, none⟩ (.int .i64 ((rd_T39 l0 (ji12)).f0))).setCell ⟨gb173, 1, none⟩ (.int .i64 ((rd_T39 l0 (ji12)).f1))).setCell ⟨gb173, 2, none⟩ (.int .i64 ((rd_T39 l0 (ji12)).f2)))).cell? _ = some _ from hx175_0)); (try have hy175_1 := fun (n_ : Nat) => (show (((((w26.drewN n_).setCell ⟨gb173, 0, none⟩ (.int .i64 ((rd_T39 l0 (ji12)).f0))).setCell ⟨gb173, 1, none⟩ (.int .i64 ((rd_T39 l0 (ji12)).f1))).setCell ⟨gb173, 2, none⟩ (.int .i64 ((rd_T39 l0 (ji12)).f2)))).cell? _ = some _ from hx175_1)); (try have hy175_2 := fun (n_ : Nat) => (show (((((w26.drewN n_).setCell ⟨gb173, 0, none⟩ (.int .i64 ((rd_T39 l0 (ji12)).f0))).setCell ⟨gb173, 1, none⟩ (.int .i64 ((rd_T39 l0 (ji12)).f1))).setCell ⟨gb173, 2, none⟩ (.int .i64 ((rd_T39 l0 (ji12)).f2)))).cell? _ = some _ from hx175_2)); clear hn175_0; clear hn175_1; clear hn175_2; replace p175 := eq_true p175; replace q175 := eq_true q175)))
                            go_roundg kj2
                            case measure => have := HK1.out; have := HJ2.out; omega
                            case rel => exact ⟨(wrap64 (x3_1 + 1)), (by first | rfl | (simp; done) | (simp [*]; done)), H', ⟨by have := HK1.out; have := HJ2.out; omega⟩, ⟨by repeat (first | (with_reducible first | exact HB.out | apply below_alloc | apply pw_below_drewN | apply below_drew1 | refine below_set ?_ GE173.out) | exact HB.out)⟩⟩
                      · rw [if_neg c16] at H
                        exact absurd H (by simp)
                    · rw [if_neg c15] at H
                      exact absurd H (by simp)
                  · rw [if_neg c14] at H
                    exact absurd H (by simp)
                · rw [if_neg c13] at H
                  exact absurd H (by simp)
      · rw [if_neg c2] at H
        have c2b0 : decide (x3_1 < (l0.length : Int)) = false := decide_eq_false c2
        clear c2
        obtain rfl := Option.some.inj H
        go_wp2
        repeat (go_quiet (fail); try go_wp2)
        go_ret
        exact ⟨by first | rfl | (simp [errW_none, errW_some] <;> rfl) | (simp [*, errW_none, errW_some] <;> rfl), by repeat with_reducible first | exact HB.out | apply below_alloc | apply pw_below_drewN | apply below_drew1⟩

end Go.Proofs.Ytigecigoomofdaa.PWindowTells
