-- By a program of this session (NOTES.md). Lean checks it.
import Derived.Test.YtigecigoomofdaaPWindowRichx0
import Derived.Test.YtigecigoomofdaaPWindowRichx3
import Derived.Test.YtigecigoomofdaaPWindowRichx4
import Derived.Test.YtigecigoomofdaaPWindowRichx5
import Derived.Test.YtigecigoomofdaaPWindowRichx6
namespace Go.Proofs.Ytigecigoomofdaa.PWindowRich
open Go.RowKit Go.Proofs.YtigecigoomofdaaW.PrintWords Go.Proofs.YtigecigoomofdaaW.PrintLast Go.Proofs.YtigecigoomofdaaW.PrintMore
attribute [local go_sem] max2_int min2_int max_two min_two max_three min_three max_four min_four   -- for this text's walks alone
set_option linter.unusedVariables false
set_option linter.unusedSimpArgs false

/-! ### ferrulelaw15_WindowRich: function 5 -/
mutual
def ferrulelaw15_WindowRich.j0 : Nat → List (S38) → Int → Bool → Option (Bool)
  | 0, _, _, _ => none
  | k + 1, x0, x1, x29 => if x29 = true then (some true) else ((ferruleref9_Fold.f k x0).bind fun t197 => ((window_Many.f k t197 512 x1).bind fun bt200 => ((window_Richest.f k t197 512 x1).bind fun bt204 => (if bt200.2 = 0 then (if bt204.2.2.2 = 0 then (if (t197.length : Int) > (wrap64 (2 * (bt200.1.length : Int))) then (if bt204.2.2.1 < 3 then (ferrulelaw15_WindowRich.j1 k t197 bt204.1 bt204.2.1 true) else (if (t197.length : Int) > (wrap64 (4 * (bt200.1.length : Int))) then (ferrulelaw15_WindowRich.j1 k t197 bt204.1 bt204.2.1 (decide (bt204.2.2.1 < 5))) else (ferrulelaw15_WindowRich.j1 k t197 bt204.1 bt204.2.1 false))) else (if (t197.length : Int) > (wrap64 (4 * (bt200.1.length : Int))) then (ferrulelaw15_WindowRich.j1 k t197 bt204.1 bt204.2.1 (decide (bt204.2.2.1 < 5))) else (ferrulelaw15_WindowRich.j1 k t197 bt204.1 bt204.2.1 false))) else (ferrulelaw15_WindowRich.j1 k t197 bt204.1 bt204.2.1 true)) else (ferrulelaw15_WindowRich.j1 k t197 bt204.1 bt204.2.1 true)))))
def ferrulelaw15_WindowRich.j1 : Nat → List (S39) → Int → Int → Bool → Option (Bool)
  | 0, _, _, _, _ => none
  | k + 1, x5, x8, x9, x75 => if x75 = true then (some false) else ((window_Holes.f k x5 x8 x9).bind fun bt208 => (if bt208.2 = 0 then (ferrulelaw15_WindowRich.l0 k x5 x8 x9 bt208.1 0 0) else (some false)))
def ferrulelaw15_WindowRich.l0 : Nat → List (S39) → Int → Int → List (S38) → Int → Int → Option (Bool)
  | 0, _, _, _, _, _, _ => none
  | k + 1, x5, x8, x9, x12, x13, x14 => if x14 < (x12.length : Int) then (if 0 ≤ x14 then (ferrulelaw15_WindowRich.l0 k x5 x8 x9 x12 (wrap64 (x13 + ((rd_T38 x12 x14).f1))) (wrap64 (x14 + 1))) else (none)) else (ferrulelaw15_WindowRich.l1 k x5 x8 x9 x13 0)
def ferrulelaw15_WindowRich.l1 : Nat → List (S39) → Int → Int → Int → Int → Option (Bool)
  | 0, _, _, _, _, _ => none
  | k + 1, x5, x8, x9, x13, x15 => if x15 < (x5.length : Int) then (ferrulelaw15_WindowRich.l2 k x5 x8 x9 x13 x15 0) else (some (x13 == x9))
def ferrulelaw15_WindowRich.l2 : Nat → List (S39) → Int → Int → Int → Int → Int → Option (Bool)
  | 0, _, _, _, _, _, _ => none
  | k + 1, x5, x8, x9, x13, x15, x16 => if 0 ≤ x15 then (if x15 < (x5.length : Int) then (if x16 < ((rd_T39 x5 x15).f1) then (if (wrap64 (((rd_T39 x5 x15).f0) + x16)) ≥ x8 then (if (wrap64 (((rd_T39 x5 x15).f0) + x16)) < (wrap64 (x8 + x9)) then (ferrulelaw15_WindowRich.l2 k x5 x8 x9 (wrap64 (x13 + 1)) x15 (wrap64 (x16 + 1))) else (ferrulelaw15_WindowRich.l2 k x5 x8 x9 x13 x15 (wrap64 (x16 + 1)))) else (ferrulelaw15_WindowRich.l2 k x5 x8 x9 x13 x15 (wrap64 (x16 + 1)))) else (ferrulelaw15_WindowRich.l1 k x5 x8 x9 x13 (wrap64 (x15 + 1)))) else (none)) else (none)
end
def ferrulelaw15_WindowRich.f (k : Nat) (l0 : List (S38)) (a1 : Int) : Option (Bool) := (ferrulelaw15_awake.f k).bind fun t196 => (if t196 = true then (if (l0.length : Int) > 100 then (ferrulelaw15_WindowRich.j0 k l0 a1 true) else (if a1 < 1 then (ferrulelaw15_WindowRich.j0 k l0 a1 true) else (ferrulelaw15_WindowRich.j0 k l0 a1 (decide (a1 > 512))))) else (some false))
theorem ferrulelaw15_WindowRich.mono_l : ∀ k, (∀ y0 y1 y2, LeO (ferrulelaw15_WindowRich.j0 k y0 y1 y2) (ferrulelaw15_WindowRich.j0 (k + 1) y0 y1 y2)) ∧ (∀ y0 y1 y2 y3, LeO (ferrulelaw15_WindowRich.j1 k y0 y1 y2 y3) (ferrulelaw15_WindowRich.j1 (k + 1) y0 y1 y2 y3)) ∧ (∀ y0 y1 y2 y3 y4 y5, LeO (ferrulelaw15_WindowRich.l0 k y0 y1 y2 y3 y4 y5) (ferrulelaw15_WindowRich.l0 (k + 1) y0 y1 y2 y3 y4 y5)) ∧ (∀ y0 y1 y2 y3 y4, LeO (ferrulelaw15_WindowRich.l1 k y0 y1 y2 y3 y4) (ferrulelaw15_WindowRich.l1 (k + 1) y0 y1 y2 y3 y4)) ∧ (∀ y0 y1 y2 y3 y4 y5, LeO (ferrulelaw15_WindowRich.l2 k y0 y1 y2 y3 y4 y5) (ferrulelaw15_WindowRich.l2 (k + 1) y0 y1 y2 y3 y4 y5))
  | 0 => ⟨fun _ _ _ r h => by simp [ferrulelaw15_WindowRich.j0] at h, fun _ _ _ _ r h => by simp [ferrulelaw15_WindowRich.j1] at h, fun _ _ _ _ _ _ r h => by simp [ferrulelaw15_WindowRich.l0] at h, fun _ _ _ _ _ r h => by simp [ferrulelaw15_WindowRich.l1] at h, fun _ _ _ _ _ _ r h => by simp [ferrulelaw15_WindowRich.l2] at h⟩
  | k + 1 => by
    obtain ⟨ih0, ih1, ih2, ih3, ih4⟩ := ferrulelaw15_WindowRich.mono_l k
    refine ⟨?_, ?_, ?_, ?_, ?_⟩
    · intro y0 y1 y2
      unfold ferrulelaw15_WindowRich.j0
      repeat' first
      | (with_reducible exact ih0 _ _ _)
      | (with_reducible exact ih1 _ _ _ _)
      | (with_reducible exact ih2 _ _ _ _ _ _)
      | (with_reducible exact ih3 _ _ _ _ _)
      | (with_reducible exact ih4 _ _ _ _ _ _)
      | (with_reducible exact ferrulelaw15_awake.mono _)
      | (with_reducible exact ferruleref9_Fold.mono _ _)
      | (with_reducible exact window_Holes.mono _ _ _ _)
      | (with_reducible exact window_Many.mono _ _ _ _)
      | (with_reducible exact window_Richest.mono _ _ _ _)
      | (with_reducible exact LeO.refl _)
      | (with_reducible exact LeO.none _)
      | (with_reducible refine LeO.ite ?_ ?_)
      | (with_reducible refine LeO.bind ?_ (fun _ => ?_))
      | exact ih0 _ _ _
      | exact ih1 _ _ _ _
      | exact ih2 _ _ _ _ _ _
      | exact ih3 _ _ _ _ _
      | exact ih4 _ _ _ _ _ _
      | exact ferrulelaw15_awake.mono _
      | exact ferruleref9_Fold.mono _ _
      | exact window_Holes.mono _ _ _ _
      | exact window_Many.mono _ _ _ _
      | exact window_Richest.mono _ _ _ _
      | exact LeO.none _
      | refine LeO.ite ?_ ?_
      | refine LeO.bind ?_ (fun _ => ?_)
    · intro y0 y1 y2 y3
      unfold ferrulelaw15_WindowRich.j1
      repeat' first
      | (with_reducible exact ih0 _ _ _)
      | (with_reducible exact ih1 _ _ _ _)
      | (with_reducible exact ih2 _ _ _ _ _ _)
      | (with_reducible exact ih3 _ _ _ _ _)
      | (with_reducible exact ih4 _ _ _ _ _ _)
      | (with_reducible exact ferrulelaw15_awake.mono _)
      | (with_reducible exact ferruleref9_Fold.mono _ _)
      | (with_reducible exact window_Holes.mono _ _ _ _)
      | (with_reducible exact window_Many.mono _ _ _ _)
      | (with_reducible exact window_Richest.mono _ _ _ _)
      | (with_reducible exact LeO.refl _)
      | (with_reducible exact LeO.none _)
      | (with_reducible refine LeO.ite ?_ ?_)
      | (with_reducible refine LeO.bind ?_ (fun _ => ?_))
      | exact ih0 _ _ _
      | exact ih1 _ _ _ _
      | exact ih2 _ _ _ _ _ _
      | exact ih3 _ _ _ _ _
      | exact ih4 _ _ _ _ _ _
      | exact ferrulelaw15_awake.mono _
      | exact ferruleref9_Fold.mono _ _
      | exact window_Holes.mono _ _ _ _
      | exact window_Many.mono _ _ _ _
      | exact window_Richest.mono _ _ _ _
      | exact LeO.none _
      | refine LeO.ite ?_ ?_
      | refine LeO.bind ?_ (fun _ => ?_)
    · intro y0 y1 y2 y3 y4 y5
      unfold ferrulelaw15_WindowRich.l0
      repeat' first
      | (with_reducible exact ih0 _ _ _)
      | (with_reducible exact ih1 _ _ _ _)
      | (with_reducible exact ih2 _ _ _ _ _ _)
      | (with_reducible exact ih3 _ _ _ _ _)
      | (with_reducible exact ih4 _ _ _ _ _ _)
      | (with_reducible exact ferrulelaw15_awake.mono _)
      | (with_reducible exact ferruleref9_Fold.mono _ _)
      | (with_reducible exact window_Holes.mono _ _ _ _)
      | (with_reducible exact window_Many.mono _ _ _ _)
      | (with_reducible exact window_Richest.mono _ _ _ _)
      | (with_reducible exact LeO.refl _)
      | (with_reducible exact LeO.none _)
      | (with_reducible refine LeO.ite ?_ ?_)
      | (with_reducible refine LeO.bind ?_ (fun _ => ?_))
      | exact ih0 _ _ _
      | exact ih1 _ _ _ _
      | exact ih2 _ _ _ _ _ _
      | exact ih3 _ _ _ _ _
      | exact ih4 _ _ _ _ _ _
      | exact ferrulelaw15_awake.mono _
      | exact ferruleref9_Fold.mono _ _
      | exact window_Holes.mono _ _ _ _
      | exact window_Many.mono _ _ _ _
      | exact window_Richest.mono _ _ _ _
      | exact LeO.none _
      | refine LeO.ite ?_ ?_
      | refine LeO.bind ?_ (fun _ => ?_)
    · intro y0 y1 y2 y3 y4
      unfold ferrulelaw15_WindowRich.l1
      repeat' first
      | (with_reducible exact ih0 _ _ _)
      | (with_reducible exact ih1 _ _ _ _)
      | (with_reducible exact ih2 _ _ _ _ _ _)
      | (with_reducible exact ih3 _ _ _ _ _)
      | (with_reducible exact ih4 _ _ _ _ _ _)
      | (with_reducible exact ferrulelaw15_awake.mono _)
      | (with_reducible exact ferruleref9_Fold.mono _ _)
      | (with_reducible exact window_Holes.mono _ _ _ _)
      | (with_reducible exact window_Many.mono _ _ _ _)
      | (with_reducible exact window_Richest.mono _ _ _ _)
      | (with_reducible exact LeO.refl _)
      | (with_reducible exact LeO.none _)
      | (with_reducible refine LeO.ite ?_ ?_)
      | (with_reducible refine LeO.bind ?_ (fun _ => ?_))
      | exact ih0 _ _ _
      | exact ih1 _ _ _ _
      | exact ih2 _ _ _ _ _ _
      | exact ih3 _ _ _ _ _
      | exact ih4 _ _ _ _ _ _
      | exact ferrulelaw15_awake.mono _
      | exact ferruleref9_Fold.mono _ _
      | exact window_Holes.mono _ _ _ _
      | exact window_Many.mono _ _ _ _
      | exact window_Richest.mono _ _ _ _
      | exact LeO.none _
      | refine LeO.ite ?_ ?_
      | refine LeO.bind ?_ (fun _ => ?_)
    · intro y0 y1 y2 y3 y4 y5
      unfold ferrulelaw15_WindowRich.l2
      repeat' first
      | (with_reducible exact ih0 _ _ _)
      | (with_reducible exact ih1 _ _ _ _)
      | (with_reducible exact ih2 _ _ _ _ _ _)
      | (with_reducible exact ih3 _ _ _ _ _)
      | (with_reducible exact ih4 _ _ _ _ _ _)
      | (with_reducible exact ferrulelaw15_awake.mono _)
      | (with_reducible exact ferruleref9_Fold.mono _ _)
      | (with_reducible exact window_Holes.mono _ _ _ _)
      | (with_reducible exact window_Many.mono _ _ _ _)
      | (with_reducible exact window_Richest.mono _ _ _ _)
      | (with_reducible exact LeO.refl _)
      | (with_reducible exact LeO.none _)
      | (with_reducible refine LeO.ite ?_ ?_)
      | (with_reducible refine LeO.bind ?_ (fun _ => ?_))
      | exact ih0 _ _ _
      | exact ih1 _ _ _ _
      | exact ih2 _ _ _ _ _ _
      | exact ih3 _ _ _ _ _
      | exact ih4 _ _ _ _ _ _
      | exact ferrulelaw15_awake.mono _
      | exact ferruleref9_Fold.mono _ _
      | exact window_Holes.mono _ _ _ _
      | exact window_Many.mono _ _ _ _
      | exact window_Richest.mono _ _ _ _
      | exact LeO.none _
      | refine LeO.ite ?_ ?_
      | refine LeO.bind ?_ (fun _ => ?_)
theorem ferrulelaw15_WindowRich.mono : ∀ a0 a1 k, LeO (ferrulelaw15_WindowRich.f k a0 a1) (ferrulelaw15_WindowRich.f (k + 1) a0 a1) := by
  intro a0 a1 k
  obtain ⟨ih0, ih1, ih2, ih3, ih4⟩ := ferrulelaw15_WindowRich.mono_l k
  unfold ferrulelaw15_WindowRich.f
  repeat' first
      | (with_reducible exact ih0 _ _ _)
      | (with_reducible exact ih1 _ _ _ _)
      | (with_reducible exact ih2 _ _ _ _ _ _)
      | (with_reducible exact ih3 _ _ _ _ _)
      | (with_reducible exact ih4 _ _ _ _ _ _)
      | (with_reducible exact ferrulelaw15_awake.mono _)
      | (with_reducible exact ferruleref9_Fold.mono _ _)
      | (with_reducible exact window_Holes.mono _ _ _ _)
      | (with_reducible exact window_Many.mono _ _ _ _)
      | (with_reducible exact window_Richest.mono _ _ _ _)
      | (with_reducible exact LeO.refl _)
      | (with_reducible exact LeO.none _)
      | (with_reducible refine LeO.ite ?_ ?_)
      | (with_reducible refine LeO.bind ?_ (fun _ => ?_))
      | exact ih0 _ _ _
      | exact ih1 _ _ _ _
      | exact ih2 _ _ _ _ _ _
      | exact ih3 _ _ _ _ _
      | exact ih4 _ _ _ _ _ _
      | exact ferrulelaw15_awake.mono _
      | exact ferruleref9_Fold.mono _ _
      | exact window_Holes.mono _ _ _ _
      | exact window_Many.mono _ _ _ _
      | exact window_Richest.mono _ _ _ _
      | exact LeO.none _
      | refine LeO.ite ?_ ?_
      | refine LeO.bind ?_ (fun _ => ?_)
set_option maxHeartbeats 8000000 in
set_option maxRecDepth 100000 in
theorem ferrulelaw15_WindowRich.calls (k : Nat) (A0 : Option Addr) (c0 : Nat) (l0 : List (S38)) (a1 : Int) (r : Bool) (w : World) (hr0 : Kd.C k38 w A0 l0.length l0) (hc0 : l0.length ≤ c0) (h : ferrulelaw15_WindowRich.f k l0 a1 = some r) :
    Calls Try.prog 5 #[.slice A0 l0.length c0, .int .i64 a1] w fun e w' => e = .returned (.bool r) ∧ Below w.heap.size w w' := by
  have HR0 := Aside0.mk hr0
  have HC0 := Aside0.mk hc0
  clear hr0 hc0
  have HB := Aside0.mk (Below.refl w.heap.size w)
  have H : ((ferrulelaw15_awake.f k).bind fun t196 => (if t196 = true then (if (l0.length : Int) > 100 then (ferrulelaw15_WindowRich.j0 k l0 a1 true) else (if a1 < 1 then (ferrulelaw15_WindowRich.j0 k l0 a1 true) else (ferrulelaw15_WindowRich.j0 k l0 a1 (decide (a1 > 512))))) else (some false))) = some r := h
  clear h
  replace H := Option.bind_eq_some_iff.mp H
  obtain ⟨t196, A30, H⟩ := H
  replace H : (if t196 = true then (if (l0.length : Int) > 100 then (ferrulelaw15_WindowRich.j0 k l0 a1 true) else (if a1 < 1 then (ferrulelaw15_WindowRich.j0 k l0 a1 true) else (ferrulelaw15_WindowRich.j0 k l0 a1 (decide (a1 > 512))))) else (some false)) = some r := H
  have A3 := Aside0.mk A30
  clear A30
  by_cases c4 : t196 = true
  · subst c4
    have H1 : (if (l0.length : Int) > 100 then (ferrulelaw15_WindowRich.j0 k l0 a1 true) else (if a1 < 1 then (ferrulelaw15_WindowRich.j0 k l0 a1 true) else (ferrulelaw15_WindowRich.j0 k l0 a1 (decide (a1 > 512))))) = some r := by rw [if_pos rfl] at H; exact H
    clear H
    have H := H1
    clear H1
    have HC5 := Aside0.mk H
    clear H
    go_enter Try.func5, Try.ntmps5
    go_upto_region 3 with (first | ((with_reducible refine gate_callee (f := 7) rfl ?_); refine goesL_ (some 17) rfl rfl Try.func7 (by kernel_rfl) rfl #[] rfl (by (try simp only [List.map_toArray, List.map_cons, List.map_nil]); first | done | rfl | (simp only [List.length_drop, List.length_take]; rfl)) ?_; (with_reducible refine (ferrulelaw15_awake.calls k  true _ A3.out).mono ?_); rintro e w6 ⟨rfl, hb⟩; refine ⟨_, rfl, ?_⟩; have n0_ := Aside0.mk (below_step (by repeat (first | (with_reducible first | exact HB.out | apply below_alloc | apply pw_below_drewN | apply below_drew1) | exact HB.out)) hb); clear HB; have HB := n0_; clear n0_; (try clear hb); (try clear hb2); (try clear hk); (try clear hi)))
    (try simp only [Act.put, List.setIfInBounds_toArray, List.set_cons_zero, List.set_cons_succ])
    go_cut [29] (fun v29 wc => ∃ (kq : Nat) (x29_4 : Bool), v29 = .bool x29_4 ∧ Aside0 (ferrulelaw15_WindowRich.j0 kq l0 a1 x29_4 = some r) ∧ Aside0 (kq ≤ k) ∧ Aside0 (Below w.heap.size w wc))
    case first =>
      have H := HC5.out
      clear HC5
      by_cases c7 : (l0.length : Int) > 100
      · rw [if_pos c7] at H
        have c7b0 : decide (100 < (l0.length : Int)) = true := decide_eq_true c7
        have c7b1 : decide (100 < l0.length) = true := decide_eq_true (by omega)
        clear c7
        (first | rw [c7b0] | (simp only [i64_w, i32_w]; rw [c7b0]) | skip)
        have H' := Aside0.mk H
        clear H
        go_wp2
        go_meet
        case rel => exact ⟨_, (true), (by first | rfl | (simp; done) | (simp [*]; done)), H', ⟨by first | omega | exact Nat.le_refl _⟩, ⟨by repeat (first | (with_reducible first | exact HB.out | apply below_alloc | apply pw_below_drewN | apply below_drew1) | exact HB.out)⟩⟩
      · rw [if_neg c7] at H
        have c7b0 : decide (100 < (l0.length : Int)) = false := decide_eq_false c7
        have c7b1 : decide (100 < l0.length) = false := decide_eq_false (by omega)
        clear c7
        (first | rw [c7b0] | (simp only [i64_w, i32_w]; rw [c7b0]) | skip)
        by_cases c8 : a1 < 1
        · rw [if_pos c8] at H
          have c8b0 : decide (a1 < 1) = true := decide_eq_true c8
          clear c8
          have H' := Aside0.mk H
          clear H
          go_wp2
          go_meet
          case rel => exact ⟨_, (true), (by first | rfl | (simp; done) | (simp [*]; done)), H', ⟨by first | omega | exact Nat.le_refl _⟩, ⟨by repeat (first | (with_reducible first | exact HB.out | apply below_alloc | apply pw_below_drewN | apply below_drew1) | exact HB.out)⟩⟩
        · rw [if_neg c8] at H
          have c8b0 : decide (a1 < 1) = false := decide_eq_false c8
          clear c8
          have H' := Aside0.mk H
          clear H
          go_wp2
          go_meet
          case rel => exact ⟨_, (decide (a1 > 512)), (by first | rfl | (simp; done) | (simp [*]; done)), H', ⟨by first | omega | exact Nat.le_refl _⟩, ⟨by repeat (first | (with_reducible first | exact HB.out | apply below_alloc | apply pw_below_drewN | apply below_drew1) | exact HB.out)⟩⟩
    case rest =>
      clear HC5
      try clear p2
      try clear c4
      try clear c5
      try clear c7
      try clear c7b0
      try clear c7b1
      try clear c8
      try clear c8b0
      obtain ⟨kq, x29_4, rfl, HA, HJ4, HB⟩ := hcut
      cases kq with
      | zero => exact absurd HA.out (by simp [ferrulelaw15_WindowRich.j0])
      | succ kj4 =>
        have H := HA.out
        clear HA
        simp only [ferrulelaw15_WindowRich.j0] at H
        by_cases c9 : x29_4 = true
        · subst c9
          have H1 : (some true) = some r := by rw [if_pos rfl] at H; exact H
          clear H
          have H := H1
          clear H1
          obtain rfl := Option.some.inj H
          go_wp2
          go_ret
          exact ⟨by first | rfl | (simp [errW_none, errW_some] <;> rfl) | (simp [*, errW_none, errW_some] <;> rfl), by repeat (first | (with_reducible first | exact HB.out | apply below_alloc | apply pw_below_drewN | apply below_drew1) | exact HB.out)⟩
        · replace c9 := Bool.eq_false_iff.mpr c9
          subst c9
          have H1 : ((ferruleref9_Fold.f kj4 l0).bind fun t197 => ((window_Many.f kj4 t197 512 a1).bind fun bt200 => ((window_Richest.f kj4 t197 512 a1).bind fun bt204 => (if bt200.2 = 0 then (if bt204.2.2.2 = 0 then (if (t197.length : Int) > (wrap64 (2 * (bt200.1.length : Int))) then (if bt204.2.2.1 < 3 then (ferrulelaw15_WindowRich.j1 kj4 t197 bt204.1 bt204.2.1 true) else (if (t197.length : Int) > (wrap64 (4 * (bt200.1.length : Int))) then (ferrulelaw15_WindowRich.j1 kj4 t197 bt204.1 bt204.2.1 (decide (bt204.2.2.1 < 5))) else (ferrulelaw15_WindowRich.j1 kj4 t197 bt204.1 bt204.2.1 false))) else (if (t197.length : Int) > (wrap64 (4 * (bt200.1.length : Int))) then (ferrulelaw15_WindowRich.j1 kj4 t197 bt204.1 bt204.2.1 (decide (bt204.2.2.1 < 5))) else (ferrulelaw15_WindowRich.j1 kj4 t197 bt204.1 bt204.2.1 false))) else (ferrulelaw15_WindowRich.j1 kj4 t197 bt204.1 bt204.2.1 true)) else (ferrulelaw15_WindowRich.j1 kj4 t197 bt204.1 bt204.2.1 true))))) = some r := by rw [if_neg (show ¬ (false = true) by decide)] at H; exact H
          clear H
          have H := H1
          clear H1
          replace H := Option.bind_eq_some_iff.mp H
          obtain ⟨t197, A100, H⟩ := H
          replace H : ((window_Many.f kj4 t197 512 a1).bind fun bt200 => ((window_Richest.f kj4 t197 512 a1).bind fun bt204 => (if bt200.2 = 0 then (if bt204.2.2.2 = 0 then (if (t197.length : Int) > (wrap64 (2 * (bt200.1.length : Int))) then (if bt204.2.2.1 < 3 then (ferrulelaw15_WindowRich.j1 kj4 t197 bt204.1 bt204.2.1 true) else (if (t197.length : Int) > (wrap64 (4 * (bt200.1.length : Int))) then (ferrulelaw15_WindowRich.j1 kj4 t197 bt204.1 bt204.2.1 (decide (bt204.2.2.1 < 5))) else (ferrulelaw15_WindowRich.j1 kj4 t197 bt204.1 bt204.2.1 false))) else (if (t197.length : Int) > (wrap64 (4 * (bt200.1.length : Int))) then (ferrulelaw15_WindowRich.j1 kj4 t197 bt204.1 bt204.2.1 (decide (bt204.2.2.1 < 5))) else (ferrulelaw15_WindowRich.j1 kj4 t197 bt204.1 bt204.2.1 false))) else (ferrulelaw15_WindowRich.j1 kj4 t197 bt204.1 bt204.2.1 true)) else (ferrulelaw15_WindowRich.j1 kj4 t197 bt204.1 bt204.2.1 true)))) = some r := H
          have A10 := Aside0.mk A100
          clear A100
          replace H := Option.bind_eq_some_iff.mp H
          obtain ⟨⟨t200, t201⟩, A110, H⟩ := H
          replace H : ((window_Richest.f kj4 t197 512 a1).bind fun bt204 => (if t201 = 0 then (if bt204.2.2.2 = 0 then (if (t197.length : Int) > (wrap64 (2 * (t200.length : Int))) then (if bt204.2.2.1 < 3 then (ferrulelaw15_WindowRich.j1 kj4 t197 bt204.1 bt204.2.1 true) else (if (t197.length : Int) > (wrap64 (4 * (t200.length : Int))) then (ferrulelaw15_WindowRich.j1 kj4 t197 bt204.1 bt204.2.1 (decide (bt204.2.2.1 < 5))) else (ferrulelaw15_WindowRich.j1 kj4 t197 bt204.1 bt204.2.1 false))) else (if (t197.length : Int) > (wrap64 (4 * (t200.length : Int))) then (ferrulelaw15_WindowRich.j1 kj4 t197 bt204.1 bt204.2.1 (decide (bt204.2.2.1 < 5))) else (ferrulelaw15_WindowRich.j1 kj4 t197 bt204.1 bt204.2.1 false))) else (ferrulelaw15_WindowRich.j1 kj4 t197 bt204.1 bt204.2.1 true)) else (ferrulelaw15_WindowRich.j1 kj4 t197 bt204.1 bt204.2.1 true))) = some r := H
          have A11 := Aside0.mk A110
          clear A110
          replace H := Option.bind_eq_some_iff.mp H
          obtain ⟨⟨t204, t205, t206, t207⟩, A120, H⟩ := H
          replace H : (if t201 = 0 then (if t207 = 0 then (if (t197.length : Int) > (wrap64 (2 * (t200.length : Int))) then (if t206 < 3 then (ferrulelaw15_WindowRich.j1 kj4 t197 t204 t205 true) else (if (t197.length : Int) > (wrap64 (4 * (t200.length : Int))) then (ferrulelaw15_WindowRich.j1 kj4 t197 t204 t205 (decide (t206 < 5))) else (ferrulelaw15_WindowRich.j1 kj4 t197 t204 t205 false))) else (if (t197.length : Int) > (wrap64 (4 * (t200.length : Int))) then (ferrulelaw15_WindowRich.j1 kj4 t197 t204 t205 (decide (t206 < 5))) else (ferrulelaw15_WindowRich.j1 kj4 t197 t204 t205 false))) else (ferrulelaw15_WindowRich.j1 kj4 t197 t204 t205 true)) else (ferrulelaw15_WindowRich.j1 kj4 t197 t204 t205 true)) = some r := H
          have A12 := Aside0.mk A120
          clear A120
          have HC13 := Aside0.mk H
          clear H
          go_upto_region 8 with (first | ((with_reducible refine gate_callee (f := 13) rfl ?_); refine goesL_ (some 31) rfl rfl Try.func13 (by kernel_rfl) rfl #[.slice A0 l0.length c0] rfl (by (try simp only [List.map_toArray, List.map_cons, List.map_nil]); first | done | rfl | (simp only [List.length_drop, List.length_take]; rfl)) ?_; (with_reducible refine (ferruleref9_Fold.calls kj4 _ _ l0 t197 _ ?side1 ?side2 A10.out).mono ?_); (case side1 => repeat (first | exact (Kd.C_below HR0.out HB.out) | (with_reducible refine Kd.C_alloc ?_ _) | (with_reducible refine Kd.C_drewN ?_ _) | (with_reducible refine Kd.C_drew ?_))); (case side2 => exact HC0.out); rintro e w14 ⟨v198, rfl, ho0, hb⟩; refine ⟨_, rfl, ?_⟩; have n0_ := Aside0.mk (Kd.R_lower ho0 (below_size (by repeat (first | (with_reducible first | exact HB.out | apply below_alloc | apply pw_below_drewN | apply below_drew1) | exact HB.out)))); have n1_ := Aside0.mk (below_step (by repeat (first | (with_reducible first | exact HB.out | apply below_alloc | apply pw_below_drewN | apply below_drew1) | exact HB.out)) hb); clear HB; have HO199 := n0_; have HB := n1_; clear n0_ n1_; (try clear hb); (try clear hb2); (try clear hk); (try clear hi); (try clear ho0); obtain ⟨Ao15, co15, eo15⟩ := Kd.R_slice HO199.out; subst eo15) | ((with_reducible refine gate_callee (f := 10) rfl ?_); refine goesL_ (some 35) rfl rfl Try.func10 (by kernel_rfl) rfl #[.slice Ao15 t197.length co15, .int .i64 512, .int .i64 a1] rfl (by (try simp only [List.map_toArray, List.map_cons, List.map_nil]); first | done | rfl | (simp only [List.length_drop, List.length_take]; rfl)) ?_; (with_reducible refine (window_Many.calls kj4 _ _ t197 512 a1 t200 t201 _ ?side1 ?side2 A11.out).mono ?_); (case side1 => repeat (first | exact (Kd.R_reads' HO199.out).2.2 | (with_reducible refine Kd.C_alloc ?_ _) | (with_reducible refine Kd.C_drewN ?_ _) | (with_reducible refine Kd.C_drew ?_))); (case side2 => exact (Kd.R_reads' HO199.out).2.1); rintro e w16 ⟨v202, rfl, ho0, hb⟩; refine ⟨_, rfl, ?_⟩; have n0_ := Aside0.mk (Kd.R_below (by (with_reducible repeat (first | apply Kd.R_alloc | apply Kd.R_drewN | apply Kd.R_drew)); exact HO199.out) hb); have n1_ := Aside0.mk (Kd.R_lower ho0 (below_size (by repeat (first | (with_reducible first | exact HB.out | apply below_alloc | apply pw_below_drewN | apply below_drew1) | exact HB.out)))); have n2_ := Aside0.mk (below_step (by repeat (first | (with_reducible first | exact HB.out | apply below_alloc | apply pw_below_drewN | apply below_drew1) | exact HB.out)) hb); clear HO199; clear HB; have HO199 := n0_; have HO203 := n1_; have HB := n2_; clear n0_ n1_ n2_; (try clear hb); (try clear hb2); (try clear hk); (try clear hi); (try clear ho0)) | ((with_reducible refine gate_callee (f := 11) rfl ?_); refine goesL_ (some 41) rfl rfl Try.func11 (by kernel_rfl) rfl #[.slice Ao15 t197.length co15, .int .i64 512, .int .i64 a1] rfl (by (try simp only [List.map_toArray, List.map_cons, List.map_nil]); first | done | rfl | (simp only [List.length_drop, List.length_take]; rfl)) ?_; (with_reducible refine (window_Richest.calls kj4 _ _ t197 512 a1 t204 t205 t206 t207 _ ?side1 ?side2 A12.out).mono ?_); (case side1 => repeat (first | exact (Kd.R_reads' HO199.out).2.2 | (with_reducible refine Kd.C_alloc ?_ _) | (with_reducible refine Kd.C_drewN ?_ _) | (with_reducible refine Kd.C_drew ?_))); (case side2 => exact (Kd.R_reads' HO199.out).2.1); rintro e w17 ⟨rfl, hb⟩; refine ⟨_, rfl, ?_⟩; have n0_ := Aside0.mk (Kd.R_below (by (with_reducible repeat (first | apply Kd.R_alloc | apply Kd.R_drewN | apply Kd.R_drew)); exact HO199.out) hb); have n1_ := Aside0.mk (Kd.R_below (by (with_reducible repeat (first | apply Kd.R_alloc | apply Kd.R_drewN | apply Kd.R_drew)); exact HO203.out) hb); have n2_ := Aside0.mk (below_step (by repeat (first | (with_reducible first | exact HB.out | apply below_alloc | apply pw_below_drewN | apply below_drew1) | exact HB.out)) hb); clear HO199; clear HO203; clear HB; have HO199 := n0_; have HO203 := n1_; have HB := n2_; clear n0_ n1_ n2_; (try clear hb); (try clear hb2); (try clear hk); (try clear hi)))
          (try simp only [Act.put, List.setIfInBounds_toArray, List.set_cons_zero, List.set_cons_succ])
          go_cut [75] (fun v75 wc => ∃ (kq : Nat) (x75_12 : Bool), v75 = .bool x75_12 ∧ Aside0 (ferrulelaw15_WindowRich.j1 kq t197 t204 t205 x75_12 = some r) ∧ Aside0 (kq ≤ kj4) ∧ Aside0 (Kd.R k39 39 wc w.heap.size (fun _ => True) (.slice Ao15 t197.length co15) t197) ∧ Aside0 (Below w.heap.size w wc))
          case first =>
            have H := HC13.out
            clear HC13
            by_cases c18 : t201 = 0
            · rw [if_pos c18] at H
              have c18b0 : (t201 == 0) = true := beq_iff_eq.mpr c18
              have c18b1 : (t201 != 0) = false := bne_eq_false_iff_eq.mpr c18
              clear c18
              (first | rw [c18b0] | (simp only [i64_w, i32_w]; rw [c18b0]) | skip)
              by_cases c19 : t207 = 0
              · rw [if_pos c19] at H
                have c19b0 : (t207 == 0) = true := beq_iff_eq.mpr c19
                have c19b1 : (t207 != 0) = false := bne_eq_false_iff_eq.mpr c19
                clear c19
                by_cases c20 : (t197.length : Int) > (wrap64 (2 * (t200.length : Int)))
                · rw [if_pos c20] at H
                  have c20b0 : decide ((wrap64 (2 * (t200.length : Int))) < (t197.length : Int)) = true := decide_eq_true c20
                  clear c20
                  by_cases c21 : t206 < 3
                  · rw [if_pos c21] at H
                    have c21b0 : decide (t206 < 3) = true := decide_eq_true c21
                    clear c21
                    have H' := Aside0.mk H
                    clear H
                    obtain ⟨Ao22, co22, eo22⟩ := Kd.R_slice HO203.out
                    subst eo22
                    go_wp2
                    go_meet
                    case rel => exact ⟨_, (true), (by first | rfl | (simp; done) | (simp [*]; done)), H', ⟨by have := HJ4.out; first | omega | exact Nat.le_refl _⟩, ⟨by (with_reducible repeat (first | apply Kd.R_alloc | apply Kd.R_drewN | apply Kd.R_drew)); exact HO199.out⟩, ⟨by repeat (first | (with_reducible first | exact HB.out | apply below_alloc | apply pw_below_drewN | apply below_drew1) | exact HB.out)⟩⟩
                  · rw [if_neg c21] at H
                    have c21b0 : decide (t206 < 3) = false := decide_eq_false c21
                    clear c21
                    by_cases c23 : (t197.length : Int) > (wrap64 (4 * (t200.length : Int)))
                    · rw [if_pos c23] at H
                      have c23b0 : decide ((wrap64 (4 * (t200.length : Int))) < (t197.length : Int)) = true := decide_eq_true c23
                      clear c23
                      have H' := Aside0.mk H
                      clear H
                      obtain ⟨Ao24, co24, eo24⟩ := Kd.R_slice HO203.out
                      subst eo24
                      go_wp2
                      go_meet
                      case rel => exact ⟨_, (decide (t206 < 5)), (by first | rfl | (simp; done) | (simp [*]; done)), H', ⟨by have := HJ4.out; first | omega | exact Nat.le_refl _⟩, ⟨by (with_reducible repeat (first | apply Kd.R_alloc | apply Kd.R_drewN | apply Kd.R_drew)); exact HO199.out⟩, ⟨by repeat (first | (with_reducible first | exact HB.out | apply below_alloc | apply pw_below_drewN | apply below_drew1) | exact HB.out)⟩⟩
                    · rw [if_neg c23] at H
                      have c23b0 : decide ((wrap64 (4 * (t200.length : Int))) < (t197.length : Int)) = false := decide_eq_false c23
                      clear c23
                      have H' := Aside0.mk H
                      clear H
                      obtain ⟨Ao25, co25, eo25⟩ := Kd.R_slice HO203.out
                      subst eo25
                      go_wp2
                      go_meet
                      case rel => exact ⟨_, (false), (by first | rfl | (simp; done) | (simp [*]; done)), H', ⟨by have := HJ4.out; first | omega | exact Nat.le_refl _⟩, ⟨by (with_reducible repeat (first | apply Kd.R_alloc | apply Kd.R_drewN | apply Kd.R_drew)); exact HO199.out⟩, ⟨by repeat (first | (with_reducible first | exact HB.out | apply below_alloc | apply pw_below_drewN | apply below_drew1) | exact HB.out)⟩⟩
                · rw [if_neg c20] at H
                  have c20b0 : decide ((wrap64 (2 * (t200.length : Int))) < (t197.length : Int)) = false := decide_eq_false c20
                  clear c20
                  by_cases c26 : (t197.length : Int) > (wrap64 (4 * (t200.length : Int)))
                  · rw [if_pos c26] at H
                    have c26b0 : decide ((wrap64 (4 * (t200.length : Int))) < (t197.length : Int)) = true := decide_eq_true c26
                    clear c26
                    have H' := Aside0.mk H
                    clear H
                    obtain ⟨Ao27, co27, eo27⟩ := Kd.R_slice HO203.out
                    subst eo27
                    go_wp2
                    go_meet
                    case rel => exact ⟨_, (decide (t206 < 5)), (by first | rfl | (simp; done) | (simp [*]; done)), H', ⟨by have := HJ4.out; first | omega | exact Nat.le_refl _⟩, ⟨by (with_reducible repeat (first | apply Kd.R_alloc | apply Kd.R_drewN | apply Kd.R_drew)); exact HO199.out⟩, ⟨by repeat (first | (with_reducible first | exact HB.out | apply below_alloc | apply pw_below_drewN | apply below_drew1) | exact HB.out)⟩⟩
                  · rw [if_neg c26] at H
                    have c26b0 : decide ((wrap64 (4 * (t200.length : Int))) < (t197.length : Int)) = false := decide_eq_false c26
                    clear c26
                    have H' := Aside0.mk H
                    clear H
                    obtain ⟨Ao28, co28, eo28⟩ := Kd.R_slice HO203.out
                    subst eo28
                    go_wp2
                    go_meet
                    case rel => exact ⟨_, (false), (by first | rfl | (simp; done) | (simp [*]; done)), H', ⟨by have := HJ4.out; first | omega | exact Nat.le_refl _⟩, ⟨by (with_reducible repeat (first | apply Kd.R_alloc | apply Kd.R_drewN | apply Kd.R_drew)); exact HO199.out⟩, ⟨by repeat (first | (with_reducible first | exact HB.out | apply below_alloc | apply pw_below_drewN | apply below_drew1) | exact HB.out)⟩⟩
              · rw [if_neg c19] at H
                have c19b0 : (t207 == 0) = false := beq_eq_false_iff_ne.mpr c19
                have c19b1 : (t207 != 0) = true := bne_iff_ne.mpr c19
                have H' := Aside0.mk H
                clear H
                go_wp2
                go_meet
                case rel => exact ⟨_, (true), (by first | rfl | (simp; done) | (simp [*]; done)), H', ⟨by have := HJ4.out; first | omega | exact Nat.le_refl _⟩, ⟨by (with_reducible repeat (first | apply Kd.R_alloc | apply Kd.R_drewN | apply Kd.R_drew)); exact HO199.out⟩, ⟨by repeat (first | (with_reducible first | exact HB.out | apply below_alloc | apply pw_below_drewN | apply below_drew1) | exact HB.out)⟩⟩
            · rw [if_neg c18] at H
              have c18b0 : (t201 == 0) = false := beq_eq_false_iff_ne.mpr c18
              have c18b1 : (t201 != 0) = true := bne_iff_ne.mpr c18
              (first | rw [c18b0] | (simp only [i64_w, i32_w]; rw [c18b0]) | skip)
              have H' := Aside0.mk H
              clear H
              go_wp2
              go_meet
              case rel => exact ⟨_, (true), (by first | rfl | (simp; done) | (simp [*]; done)), H', ⟨by have := HJ4.out; first | omega | exact Nat.le_refl _⟩, ⟨by (with_reducible repeat (first | apply Kd.R_alloc | apply Kd.R_drewN | apply Kd.R_drew)); exact HO199.out⟩, ⟨by repeat (first | (with_reducible first | exact HB.out | apply below_alloc | apply pw_below_drewN | apply below_drew1) | exact HB.out)⟩⟩
          case rest =>
            clear HC13
            try clear c1
            try clear c2
            try clear p2
            try clear c4
            try clear c5
            try clear p6
            try clear c7
            try clear c7b0
            try clear c7b1
            try clear c8
            try clear c8b0
            try clear c9
            try clear c10
            try clear c11
            try clear c13
            try clear c18
            try clear c18b0
            try clear c18b1
            try clear c19
            try clear c19b0
            try clear c19b1
            try clear c20
            try clear c20b0
            try clear c21
            try clear c21b0
            try clear c23
            try clear c23b0
            try clear c26
            try clear c26b0
            try clear p2
            obtain ⟨kq, x75_12, rfl, HA, HJ12, HO_5, HB⟩ := hcut
            cases kq with
            | zero => exact absurd HA.out (by simp [ferrulelaw15_WindowRich.j1])
            | succ kj12 =>
              have H := HA.out
              clear HA
              simp only [ferrulelaw15_WindowRich.j1] at H
              by_cases c29 : x75_12 = true
              · subst c29
                have H1 : (some false) = some r := by rw [if_pos rfl] at H; exact H
                clear H
                have H := H1
                clear H1
                obtain rfl := Option.some.inj H
                go_wp2
                go_ret
                exact ⟨by first | rfl | (simp [errW_none, errW_some] <;> rfl) | (simp [*, errW_none, errW_some] <;> rfl), by repeat (first | (with_reducible first | exact HB.out | apply below_alloc | apply pw_below_drewN | apply below_drew1) | exact HB.out)⟩
              · replace c29 := Bool.eq_false_iff.mpr c29
                subst c29
                have H1 : ((window_Holes.f kj12 t197 t204 t205).bind fun bt208 => (if bt208.2 = 0 then (ferrulelaw15_WindowRich.l0 kj12 t197 t204 t205 bt208.1 0 0) else (some false))) = some r := by rw [if_neg (show ¬ (false = true) by decide)] at H; exact H
                clear H
                have H := H1
                clear H1
                replace H := Option.bind_eq_some_iff.mp H
                obtain ⟨⟨t208, t209⟩, A300, H⟩ := H
                replace H : (if t209 = 0 then (ferrulelaw15_WindowRich.l0 kj12 t197 t204 t205 t208 0 0) else (some false)) = some r := H
                have A30 := Aside0.mk A300
                clear A300
                by_cases c31 : t209 = 0
                · rw [if_pos c31] at H
                  have c31b0 : (t209 == 0) = true := beq_iff_eq.mpr c31
                  have c31b1 : (t209 != 0) = false := bne_eq_false_iff_eq.mpr c31
                  clear c31
                  have H' := Aside0.mk H
                  clear H
                  go_wp2_with (first | ((with_reducible refine gate_callee (f := 8) rfl ?_); refine goesL_ (some 80) rfl rfl Try.func8 (by kernel_rfl) rfl #[.slice Ao15 t197.length co15, .int .i64 t204, .int .i64 t205] rfl (by (try simp only [List.map_toArray, List.map_cons, List.map_nil]); first | done | rfl | (simp only [List.length_drop, List.length_take]; rfl)) ?_; (with_reducible refine (window_Holes.calls kj12 _ _ t197 t204 t205 t208 t209 _ ?side1 ?side2 A30.out).mono ?_); (case side1 => repeat (first | exact (Kd.R_reads' HO_5.out).2.2 | (with_reducible refine Kd.C_alloc ?_ _) | (with_reducible refine Kd.C_drewN ?_ _) | (with_reducible refine Kd.C_drew ?_))); (case side2 => exact (Kd.R_reads' HO_5.out).2.1); rintro e w32 ⟨v210, rfl, ho0, hb⟩; refine ⟨_, rfl, ?_⟩; have n0_ := Aside0.mk (Kd.R_below (by (with_reducible repeat (first | apply Kd.R_alloc | apply Kd.R_drewN | apply Kd.R_drew)); exact HO_5.out) hb); have n1_ := Aside0.mk (Kd.R_lower ho0 (below_size (by repeat (first | (with_reducible first | exact HB.out | apply below_alloc | apply pw_below_drewN | apply below_drew1) | exact HB.out)))); have n2_ := Aside0.mk (below_step (by repeat (first | (with_reducible first | exact HB.out | apply below_alloc | apply pw_below_drewN | apply below_drew1) | exact HB.out)) hb); clear HO_5; clear HB; have HO_5 := n0_; have HO211 := n1_; have HB := n2_; clear n0_ n1_ n2_; (try clear hb); (try clear hb2); (try clear hk); (try clear hi); (try clear ho0)))
                  go_loopg [13, 14] kj12 (fun kq v13 v14 w' => ∃ (x13_3 : Int) (x14_3 : Int), v13 = .int .i64 x13_3 ∧ v14 = .int .i64 x14_3 ∧ Aside0 (ferrulelaw15_WindowRich.l0 kq t197 t204 t205 t208 x13_3 x14_3 = some r) ∧ Aside0 (kq ≤ kj12) ∧ Aside0 (Kd.R k39 39 w' w.heap.size (fun _ => True) (.slice Ao15 t197.length co15) t197) ∧ Aside0 (Kd.R k38 38 w' w.heap.size (fun _ => True) v210 t208) ∧ Aside0 (Below w.heap.size w w'))
                  case atStart => exact ⟨(0), (0), (by first | rfl | (simp; done) | (simp [*]; done)), (by first | rfl | (simp; done) | (simp [*]; done)), H', ⟨Nat.le_refl _⟩, ⟨by (with_reducible repeat (first | apply Kd.R_alloc | apply Kd.R_drewN | apply Kd.R_drew)); exact HO_5.out⟩, ⟨by (with_reducible repeat (first | apply Kd.R_alloc | apply Kd.R_drewN | apply Kd.R_drew)); exact HO211.out⟩, ⟨by repeat (first | (with_reducible first | exact HB.out | apply below_alloc | apply pw_below_drewN | apply below_drew1) | exact HB.out)⟩⟩
                  case round =>
                    clear H'
                    try clear c1
                    try clear c2
                    try clear p2
                    try clear c3
                    try clear c4
                    try clear c5
                    try clear p6
                    try clear c7
                    try clear c7b0
                    try clear c7b1
                    try clear c8
                    try clear c8b0
                    try clear c9
                    try clear c10
                    try clear c11
                    try clear c13
                    try clear c18
                    try clear c18b0
                    try clear c18b1
                    try clear c19
                    try clear c19b0
                    try clear c19b1
                    try clear c20
                    try clear c20b0
                    try clear c21
                    try clear c21b0
                    try clear c23
                    try clear c23b0
                    try clear c26
                    try clear c26b0
                    try clear c29
                    try clear c31
                    try clear c31b0
                    try clear c31b1
                    try clear p2
                    try clear p6
                    obtain ⟨x13_3, x14_3, rfl, rfl, HA, HK3, HO_5, HO_12, HB⟩ := hrel
                    cases gk with
                    | zero => exact absurd HA.out (by simp [ferrulelaw15_WindowRich.l0])
                    | succ k3 =>
                      have H := HA.out
                      clear HA
                      simp only [ferrulelaw15_WindowRich.l0] at H
                      by_cases c33 : x14_3 < (t208.length : Int)
                      · rw [if_pos c33] at H
                        have c33b0 : decide (x14_3 < (t208.length : Int)) = true := decide_eq_true c33
                        clear c33
                        by_cases c34 : 0 ≤ x14_3
                        · rw [if_pos c34] at H
                          have c34b0 : decide (0 ≤ x14_3) = true := decide_eq_true c34
                          clear c34
                          have H' := Aside0.mk H
                          clear H
                          obtain ⟨Ao35, co35, eo35⟩ := Kd.R_slice HO_12.out
                          subst eo35
                          have p212 : 0 ≤ (x14_3 : Int) := of_decide_eq_true (by first | (with_reducible assumption) | assumption)
                          have q212 : x14_3 < (t208.length : Int) := of_decide_eq_true (by first | (with_reducible assumption) | assumption)
                          obtain ⟨ad212, e212, hx212_0, hx212_1, hx212_2⟩ := at_T38 (Kd.R_reads' HO_12.out).2.2 x14_3 p212 q212
                          cases e212
                          replace p212 := eq_true p212
                          replace q212 := eq_true q212
                          go_wp2
                          go_roundg k3
                          case measure => have := HJ4.out; have := HJ12.out; have := HK3.out; omega
                          case rel => exact ⟨(wrap64 (x13_3 + ((rd_T38 t208 x14_3).f1))), (wrap64 (x14_3 + 1)), (by first | rfl | (simp; done) | (simp [*]; done)), (by first | rfl | (simp; done) | (simp [*]; done)), H', ⟨by have := HJ4.out; have := HJ12.out; have := HK3.out; omega⟩, ⟨by (with_reducible repeat (first | apply Kd.R_alloc | apply Kd.R_drewN | apply Kd.R_drew)); exact HO_5.out⟩, ⟨by (with_reducible repeat (first | apply Kd.R_alloc | apply Kd.R_drewN | apply Kd.R_drew)); exact HO_12.out⟩, ⟨by repeat (first | (with_reducible first | exact HB.out | apply below_alloc | apply pw_below_drewN | apply below_drew1) | exact HB.out)⟩⟩
                        · rw [if_neg c34] at H
                          exact absurd H (by simp)
                      · rw [if_neg c33] at H
                        have c33b0 : decide (x14_3 < (t208.length : Int)) = false := decide_eq_false c33
                        clear c33
                        have H' := Aside0.mk H
                        clear H
                        obtain ⟨Ao36, co36, eo36⟩ := Kd.R_slice HO_12.out
                        subst eo36
                        go_wp2
                        go_loopg [13, 15] k3 (fun kq v13 v15 w' => ∃ (x13_4 : Int) (x15_4 : Int), v13 = .int .i64 x13_4 ∧ v15 = .int .i64 x15_4 ∧ Aside0 (ferrulelaw15_WindowRich.l1 kq t197 t204 t205 x13_4 x15_4 = some r) ∧ Aside0 (kq ≤ k3) ∧ Aside0 (Kd.R k39 39 w' w.heap.size (fun _ => True) (.slice Ao15 t197.length co15) t197) ∧ Aside0 (Below w.heap.size w w'))
                        case atStart => exact ⟨(x13_3), (0), (by first | rfl | (simp; done) | (simp [*]; done)), (by first | rfl | (simp; done) | (simp [*]; done)), H', ⟨Nat.le_refl _⟩, ⟨by (with_reducible repeat (first | apply Kd.R_alloc | apply Kd.R_drewN | apply Kd.R_drew)); exact HO_5.out⟩, ⟨by repeat (first | (with_reducible first | exact HB.out | apply below_alloc | apply pw_below_drewN | apply below_drew1) | exact HB.out)⟩⟩
                        case round =>
                          clear H'
                          try clear c1
                          try clear c2
                          try clear p2
                          try clear q2
                          try clear hx2
                          try clear c3
                          try clear c4
                          try clear c5
                          try clear p6
                          try clear c7
                          try clear c7b0
                          try clear c7b1
                          try clear c8
                          try clear c8b0
                          try clear c9
                          try clear c10
                          try clear c11
                          try clear c13
                          try clear c18
                          try clear c18b0
                          try clear c18b1
                          try clear c19
                          try clear c19b0
                          try clear c19b1
                          try clear c20
                          try clear c20b0
                          try clear c21
                          try clear c21b0
                          try clear p21
                          try clear q21
                          try clear hx21
                          try clear c23
                          try clear c23b0
                          try clear c26
                          try clear c26b0
                          try clear c29
                          try clear c31
                          try clear c31b0
                          try clear c31b1
                          try clear c33
                          try clear c33b0
                          try clear c34
                          try clear c34b0
                          try clear hx212_0
                          try clear hx212_1
                          try clear hx212_2
                          try clear p2
                          try clear p212
                          try clear p6
                          try clear q212
                          obtain ⟨x13_4, x15_4, rfl, rfl, HA, HK4, HO_5, HB⟩ := hrel
                          cases gk with
                          | zero => exact absurd HA.out (by simp [ferrulelaw15_WindowRich.l1])
                          | succ k4 =>
                            have H := HA.out
                            clear HA
                            simp only [ferrulelaw15_WindowRich.l1] at H
                            by_cases c37 : x15_4 < (t197.length : Int)
                            · rw [if_pos c37] at H
                              have c37b0 : decide (x15_4 < (t197.length : Int)) = true := decide_eq_true c37
                              clear c37
                              have H' := Aside0.mk H
                              clear H
                              go_wp2
                              go_loopg [13, 16] k4 (fun kq v13 v16 w' => ∃ (x13_5 : Int) (x16_5 : Int), v13 = .int .i64 x13_5 ∧ v16 = .int .i64 x16_5 ∧ Aside0 (ferrulelaw15_WindowRich.l2 kq t197 t204 t205 x13_5 x15_4 x16_5 = some r) ∧ Aside0 (kq ≤ k4) ∧ Aside0 (Kd.R k39 39 w' w.heap.size (fun _ => True) (.slice Ao15 t197.length co15) t197) ∧ Aside0 (Below w.heap.size w w'))
                              case atStart => exact ⟨(x13_4), (0), (by first | rfl | (simp; done) | (simp [*]; done)), (by first | rfl | (simp; done) | (simp [*]; done)), H', ⟨Nat.le_refl _⟩, ⟨by (with_reducible repeat (first | apply Kd.R_alloc | apply Kd.R_drewN | apply Kd.R_drew)); exact HO_5.out⟩, ⟨by repeat (first | (with_reducible first | exact HB.out | apply below_alloc | apply pw_below_drewN | apply below_drew1) | exact HB.out)⟩⟩
                              case round =>
                                clear H'
                                try clear c1
                                try clear c2
                                try clear p2
                                try clear q2
                                try clear hx2
                                try clear c3
                                try clear c4
                                try clear c5
                                try clear p6
                                try clear c7
                                try clear c7b0
                                try clear c7b1
                                try clear c8
                                try clear c8b0
                                try clear c9
                                try clear c10
                                try clear c11
                                try clear c13
                                try clear c18
                                try clear c18b0
                                try clear c18b1
                                try clear c19
                                try clear c19b0
                                try clear c19b1
                                try clear c20
                                try clear c20b0
                                try clear c21
                                try clear c21b0
                                try clear p21
                                try clear q21
                                try clear hx21
                                try clear c23
                                try clear c23b0
                                try clear c26
                                try clear c26b0
                                try clear c29
                                try clear c31
                                try clear c31b0
                                try clear c31b1
                                try clear c33
                                try clear c33b0
                                try clear c34
                                try clear c34b0
                                try clear c37
                                try clear c37b0
                                try clear hx212_0
                                try clear hx212_1
                                try clear hx212_2
                                try clear p2
                                try clear p21
                                try clear p212
                                try clear p6
                                try clear q2
                                try clear q21
                                try clear q212
                                obtain ⟨x13_5, x16_5, rfl, rfl, HA, HK5, HO_5, HB⟩ := hrel
                                cases gk with
                                | zero => exact absurd HA.out (by simp [ferrulelaw15_WindowRich.l2])
                                | succ k5 =>
                                  have H := HA.out
                                  clear HA
                                  simp only [ferrulelaw15_WindowRich.l2] at H
                                  by_cases c38 : 0 ≤ x15_4
                                  · rw [if_pos c38] at H
                                    have c38b0 : decide (0 ≤ x15_4) = true := decide_eq_true c38
                                    clear c38
                                    by_cases c39 : x15_4 < (t197.length : Int)
                                    · rw [if_pos c39] at H
                                      have c39b0 : decide (x15_4 < (t197.length : Int)) = true := decide_eq_true c39
                                      clear c39
                                      by_cases c40 : x16_5 < ((rd_T39 t197 x15_4).f1)
                                      · rw [if_pos c40] at H
                                        have c40b0 : decide (x16_5 < ((rd_T39 t197 x15_4).f1)) = true := decide_eq_true c40
                                        clear c40
                                        by_cases c41 : (wrap64 (((rd_T39 t197 x15_4).f0) + x16_5)) ≥ t204
                                        · rw [if_pos c41] at H
                                          have c41b0 : decide (t204 ≤ (wrap64 (((rd_T39 t197 x15_4).f0) + x16_5))) = true := decide_eq_true c41
                                          clear c41
                                          by_cases c42 : (wrap64 (((rd_T39 t197 x15_4).f0) + x16_5)) < (wrap64 (t204 + t205))
                                          · rw [if_pos c42] at H
                                            have c42b0 : decide ((wrap64 (((rd_T39 t197 x15_4).f0) + x16_5)) < (wrap64 (t204 + t205))) = true := decide_eq_true c42
                                            clear c42
                                            have H' := Aside0.mk H
                                            clear H
                                            have p213 : 0 ≤ (x15_4 : Int) := of_decide_eq_true (by first | (with_reducible assumption) | assumption)
                                            have q213 : x15_4 < (t197.length : Int) := of_decide_eq_true (by first | (with_reducible assumption) | assumption)
                                            obtain ⟨ad213, e213, hx213_0, hx213_1, hx213_2⟩ := at_T39 (Kd.R_reads' HO_5.out).2.2 x15_4 p213 q213
                                            cases e213
                                            replace p213 := eq_true p213
                                            replace q213 := eq_true q213
                                            have p214 : 0 ≤ (x15_4 : Int) := of_decide_eq_true (by first | (with_reducible assumption) | assumption)
                                            have q214 : x15_4 < (t197.length : Int) := of_decide_eq_true (by first | (with_reducible assumption) | assumption)
                                            obtain ⟨ad214, e214, hx214_0, hx214_1, hx214_2⟩ := at_T39 (Kd.R_reads' HO_5.out).2.2 x15_4 p214 q214
                                            obtain rfl : ad213 = ad214 := (by injection e214)
                                            replace p214 := eq_true p214
                                            replace q214 := eq_true q214
                                            have p215 : 0 ≤ (x15_4 : Int) := of_decide_eq_true (by first | (with_reducible assumption) | assumption)
                                            have q215 : x15_4 < (t197.length : Int) := of_decide_eq_true (by first | (with_reducible assumption) | assumption)
                                            obtain ⟨ad215, e215, hx215_0, hx215_1, hx215_2⟩ := at_T39 (Kd.R_reads' HO_5.out).2.2 x15_4 p215 q215
                                            obtain rfl : ad213 = ad215 := (by injection e215)
                                            replace p215 := eq_true p215
                                            replace q215 := eq_true q215
                                            go_wp2
                                            go_roundg k5
                                            case measure => have := HJ4.out; have := HJ12.out; have := HK3.out; have := HK4.out; have := HK5.out; omega
                                            case rel => exact ⟨(wrap64 (x13_5 + 1)), (wrap64 (x16_5 + 1)), (by first | rfl | (simp; done) | (simp [*]; done)), (by first | rfl | (simp; done) | (simp [*]; done)), H', ⟨by have := HJ4.out; have := HJ12.out; have := HK3.out; have := HK4.out; have := HK5.out; omega⟩, ⟨by (with_reducible repeat (first | apply Kd.R_alloc | apply Kd.R_drewN | apply Kd.R_drew)); exact HO_5.out⟩, ⟨by repeat (first | (with_reducible first | exact HB.out | apply below_alloc | apply pw_below_drewN | apply below_drew1) | exact HB.out)⟩⟩
                                          · rw [if_neg c42] at H
                                            have c42b0 : decide ((wrap64 (((rd_T39 t197 x15_4).f0) + x16_5)) < (wrap64 (t204 + t205))) = false := decide_eq_false c42
                                            clear c42
                                            have H' := Aside0.mk H
                                            clear H
                                            have p213 : 0 ≤ (x15_4 : Int) := of_decide_eq_true (by first | (with_reducible assumption) | assumption)
                                            have q213 : x15_4 < (t197.length : Int) := of_decide_eq_true (by first | (with_reducible assumption) | assumption)
                                            obtain ⟨ad213, e213, hx213_0, hx213_1, hx213_2⟩ := at_T39 (Kd.R_reads' HO_5.out).2.2 x15_4 p213 q213
                                            cases e213
                                            replace p213 := eq_true p213
                                            replace q213 := eq_true q213
                                            have p214 : 0 ≤ (x15_4 : Int) := of_decide_eq_true (by first | (with_reducible assumption) | assumption)
                                            have q214 : x15_4 < (t197.length : Int) := of_decide_eq_true (by first | (with_reducible assumption) | assumption)
                                            obtain ⟨ad214, e214, hx214_0, hx214_1, hx214_2⟩ := at_T39 (Kd.R_reads' HO_5.out).2.2 x15_4 p214 q214
                                            obtain rfl : ad213 = ad214 := (by injection e214)
                                            replace p214 := eq_true p214
                                            replace q214 := eq_true q214
                                            have p215 : 0 ≤ (x15_4 : Int) := of_decide_eq_true (by first | (with_reducible assumption) | assumption)
                                            have q215 : x15_4 < (t197.length : Int) := of_decide_eq_true (by first | (with_reducible assumption) | assumption)
                                            obtain ⟨ad215, e215, hx215_0, hx215_1, hx215_2⟩ := at_T39 (Kd.R_reads' HO_5.out).2.2 x15_4 p215 q215
                                            obtain rfl : ad213 = ad215 := (by injection e215)
                                            replace p215 := eq_true p215
                                            replace q215 := eq_true q215
                                            go_wp2
                                            go_roundg k5
                                            case measure => have := HJ4.out; have := HJ12.out; have := HK3.out; have := HK4.out; have := HK5.out; omega
                                            case rel => exact ⟨(x13_5), (wrap64 (x16_5 + 1)), (by first | rfl | (simp; done) | (simp [*]; done)), (by first | rfl | (simp; done) | (simp [*]; done)), H', ⟨by have := HJ4.out; have := HJ12.out; have := HK3.out; have := HK4.out; have := HK5.out; omega⟩, ⟨by (with_reducible repeat (first | apply Kd.R_alloc | apply Kd.R_drewN | apply Kd.R_drew)); exact HO_5.out⟩, ⟨by repeat (first | (with_reducible first | exact HB.out | apply below_alloc | apply pw_below_drewN | apply below_drew1) | exact HB.out)⟩⟩
                                        · rw [if_neg c41] at H
                                          have c41b0 : decide (t204 ≤ (wrap64 (((rd_T39 t197 x15_4).f0) + x16_5))) = false := decide_eq_false c41
                                          clear c41
                                          have H' := Aside0.mk H
                                          clear H
                                          have p213 : 0 ≤ (x15_4 : Int) := of_decide_eq_true (by first | (with_reducible assumption) | assumption)
                                          have q213 : x15_4 < (t197.length : Int) := of_decide_eq_true (by first | (with_reducible assumption) | assumption)
                                          obtain ⟨ad213, e213, hx213_0, hx213_1, hx213_2⟩ := at_T39 (Kd.R_reads' HO_5.out).2.2 x15_4 p213 q213
                                          cases e213
                                          replace p213 := eq_true p213
                                          replace q213 := eq_true q213
                                          have p214 : 0 ≤ (x15_4 : Int) := of_decide_eq_true (by first | (with_reducible assumption) | assumption)
                                          have q214 : x15_4 < (t197.length : Int) := of_decide_eq_true (by first | (with_reducible assumption) | assumption)
                                          obtain ⟨ad214, e214, hx214_0, hx214_1, hx214_2⟩ := at_T39 (Kd.R_reads' HO_5.out).2.2 x15_4 p214 q214
                                          obtain rfl : ad213 = ad214 := (by injection e214)
                                          replace p214 := eq_true p214
                                          replace q214 := eq_true q214
                                          go_wp2
                                          go_roundg k5
                                          case measure => have := HJ4.out; have := HJ12.out; have := HK3.out; have := HK4.out; have := HK5.out; omega
                                          case rel => exact ⟨(x13_5), (wrap64 (x16_5 + 1)), (by first | rfl | (simp; done) | (simp [*]; done)), (by first | rfl | (simp; done) | (simp [*]; done)), H', ⟨by have := HJ4.out; have := HJ12.out; have := HK3.out; have := HK4.out; have := HK5.out; omega⟩, ⟨by (with_reducible repeat (first | apply Kd.R_alloc | apply Kd.R_drewN | apply Kd.R_drew)); exact HO_5.out⟩, ⟨by repeat (first | (with_reducible first | exact HB.out | apply below_alloc | apply pw_below_drewN | apply below_drew1) | exact HB.out)⟩⟩
                                      · rw [if_neg c40] at H
                                        have c40b0 : decide (x16_5 < ((rd_T39 t197 x15_4).f1)) = false := decide_eq_false c40
                                        clear c40
                                        have H' := Aside0.mk H
                                        clear H
                                        have p213 : 0 ≤ (x15_4 : Int) := of_decide_eq_true (by first | (with_reducible assumption) | assumption)
                                        have q213 : x15_4 < (t197.length : Int) := of_decide_eq_true (by first | (with_reducible assumption) | assumption)
                                        obtain ⟨ad213, e213, hx213_0, hx213_1, hx213_2⟩ := at_T39 (Kd.R_reads' HO_5.out).2.2 x15_4 p213 q213
                                        cases e213
                                        replace p213 := eq_true p213
                                        replace q213 := eq_true q213
                                        go_wp2
                                        go_roundg k5
                                        case measure => have := HJ4.out; have := HJ12.out; have := HK3.out; have := HK4.out; have := HK5.out; omega
                                        case rel => exact ⟨(x13_5), (wrap64 (x15_4 + 1)), (by first | rfl | (simp; done) | (simp [*]; done)), (by first | rfl | (simp; done) | (simp [*]; done)), H', ⟨by have := HJ4.out; have := HJ12.out; have := HK3.out; have := HK4.out; have := HK5.out; omega⟩, ⟨by (with_reducible repeat (first | apply Kd.R_alloc | apply Kd.R_drewN | apply Kd.R_drew)); exact HO_5.out⟩, ⟨by repeat (first | (with_reducible first | exact HB.out | apply below_alloc | apply pw_below_drewN | apply below_drew1) | exact HB.out)⟩⟩
                                    · rw [if_neg c39] at H
                                      exact absurd H (by simp)
                                  · rw [if_neg c38] at H
                                    exact absurd H (by simp)
                            · rw [if_neg c37] at H
                              have c37b0 : decide (x15_4 < (t197.length : Int)) = false := decide_eq_false c37
                              clear c37
                              obtain rfl := Option.some.inj H
                              go_wp2
                              go_ret
                              exact ⟨by first | rfl | (simp [errW_none, errW_some] <;> rfl) | (simp [*, errW_none, errW_some] <;> rfl), by repeat (first | (with_reducible first | exact HB.out | apply below_alloc | apply pw_below_drewN | apply below_drew1) | exact HB.out)⟩
                · rw [if_neg c31] at H
                  have c31b0 : (t209 == 0) = false := beq_eq_false_iff_ne.mpr c31
                  have c31b1 : (t209 != 0) = true := bne_iff_ne.mpr c31
                  obtain rfl := Option.some.inj H
                  go_wp2_with (first | ((with_reducible refine gate_callee (f := 8) rfl ?_); refine goesL_ (some 80) rfl rfl Try.func8 (by kernel_rfl) rfl #[.slice Ao15 t197.length co15, .int .i64 t204, .int .i64 t205] rfl (by (try simp only [List.map_toArray, List.map_cons, List.map_nil]); first | done | rfl | (simp only [List.length_drop, List.length_take]; rfl)) ?_; (with_reducible refine (window_Holes.calls kj12 _ _ t197 t204 t205 t208 t209 _ ?side1 ?side2 A30.out).mono ?_); (case side1 => repeat (first | exact (Kd.R_reads' HO_5.out).2.2 | (with_reducible refine Kd.C_alloc ?_ _) | (with_reducible refine Kd.C_drewN ?_ _) | (with_reducible refine Kd.C_drew ?_))); (case side2 => exact (Kd.R_reads' HO_5.out).2.1); rintro e w43 ⟨v210, rfl, ho0, hb⟩; refine ⟨_, rfl, ?_⟩; have n0_ := Aside0.mk (Kd.R_below (by (with_reducible repeat (first | apply Kd.R_alloc | apply Kd.R_drewN | apply Kd.R_drew)); exact HO_5.out) hb); have n1_ := Aside0.mk (Kd.R_lower ho0 (below_size (by repeat (first | (with_reducible first | exact HB.out | apply below_alloc | apply pw_below_drewN | apply below_drew1) | exact HB.out)))); have n2_ := Aside0.mk (below_step (by repeat (first | (with_reducible first | exact HB.out | apply below_alloc | apply pw_below_drewN | apply below_drew1) | exact HB.out)) hb); clear HO_5; clear HB; have HO_5 := n0_; have HO211 := n1_; have HB := n2_; clear n0_ n1_ n2_; (try clear hb); (try clear hb2); (try clear hk); (try clear hi); (try clear ho0)))
                  go_ret
                  exact ⟨by first | rfl | (simp [errW_none, errW_some] <;> rfl) | (simp [*, errW_none, errW_some] <;> rfl), by repeat (first | (with_reducible first | exact HB.out | apply below_alloc | apply pw_below_drewN | apply below_drew1) | exact HB.out)⟩
  · replace c4 := Bool.eq_false_iff.mpr c4
    subst c4
    have H1 : (some false) = some r := by rw [if_neg (show ¬ (false = true) by decide)] at H; exact H
    clear H
    have H := H1
    clear H1
    obtain rfl := Option.some.inj H
    go_enter Try.func5, Try.ntmps5
    go_wp2_with (first | ((with_reducible refine gate_callee (f := 7) rfl ?_); refine goesL_ (some 17) rfl rfl Try.func7 (by kernel_rfl) rfl #[] rfl (by (try simp only [List.map_toArray, List.map_cons, List.map_nil]); first | done | rfl | (simp only [List.length_drop, List.length_take]; rfl)) ?_; (with_reducible refine (ferrulelaw15_awake.calls k  false _ A3.out).mono ?_); rintro e w44 ⟨rfl, hb⟩; refine ⟨_, rfl, ?_⟩; have n0_ := Aside0.mk (below_step (by repeat (first | (with_reducible first | exact HB.out | apply below_alloc | apply pw_below_drewN | apply below_drew1) | exact HB.out)) hb); clear HB; have HB := n0_; clear n0_; (try clear hb); (try clear hb2); (try clear hk); (try clear hi)))
    go_ret
    exact ⟨by first | rfl | (simp [errW_none, errW_some] <;> rfl) | (simp [*, errW_none, errW_some] <;> rfl), by repeat (first | (with_reducible first | exact HB.out | apply below_alloc | apply pw_below_drewN | apply below_drew1) | exact HB.out)⟩

/-- THE ONE PURE STATEMENT of ferrulelaw15_WindowRich: yours. -/
def ferrulelaw15_WindowRich.Pure : Prop := ∀ (l0 : List (S38)) (a1 : Int), l0.length ≤ maxLen → l0.length * 24 ≤ 140737488351232 → (∀ x ∈ l0, (fun y => (Lit.int .i64 y.f0).wf = true ∧ (Lit.int .i64 y.f1).wf = true ∧ (Lit.int .i64 y.f2).wf = true) x) → (Lit.int .i64 a1).wf = true → ∃ k, ferrulelaw15_WindowRich.f k l0 a1 = some true
theorem ferrulelaw15_WindowRich.walk (P : ferrulelaw15_WindowRich.Pure) (a0 : Option Addr) (cap0 : Nat) (l0 : List (S38)) (a1 : Int) (w : World) (hr0 : Kd.C k38 w a0 l0.length l0) (hc0 : l0.length ≤ cap0) (hm0 : l0.length ≤ maxLen) (y0 : l0.length * 24 ≤ 140737488351232) (w0 : ∀ x ∈ l0, (fun y => (Lit.int .i64 y.f0).wf = true ∧ (Lit.int .i64 y.f1).wf = true ∧ (Lit.int .i64 y.f2).wf = true) x) (w1 : (Lit.int .i64 a1).wf = true) :
    Calls Try.prog 5 #[.slice a0 l0.length cap0, .int .i64 a1] w fun e w' => e = .returned (.bool true) ∧ Below w.heap.size w w' := by
  obtain ⟨k, h⟩ := P l0 a1 hm0 y0 w0 w1
  refine (ferrulelaw15_WindowRich.calls k _ _ l0 a1 true w hr0 hc0 h).mono ?_
  rintro e w' ⟨rfl, hd⟩
  exact ⟨rfl, hd⟩

end Go.Proofs.Ytigecigoomofdaa.PWindowRich
