-- By a program of this session (NOTES.md). Lean checks it.
import Derived.Test.YtnogokemjcfaoaaPBlocksVictimx0
import Derived.Test.YtnogokemjcfaoaaPBlocksVictimx5
namespace Go.Proofs.Ytnogokemjcfaoaa.PBlocksVictim
open Go.RowKit Go.Proofs.YtnogokemjcfaoaaW.PrintWords Go.Proofs.YtnogokemjcfaoaaW.PrintLast Go.Proofs.YtnogokemjcfaoaaW.PrintMore
attribute [local go_sem] max2_int min2_int max_two min_two max_three min_three max_four min_four   -- for this text's walks alone
set_option linter.unusedVariables false
set_option linter.unusedSimpArgs false

/-! ### ferrulelaw13_BlocksVictim: function 5 -/
mutual
def ferrulelaw13_BlocksVictim.l0 : Nat → List Int → List Bool → Int → Bool → Bool → Int → Option (Bool)
  | 0, _, _, _, _, _, _ => none
  | k + 1, x0, x1, x5, x6, x7, x8 => if x8 < (x0.length : Int) then (ferrulelaw13_BlocksVictim.j1 k x0 x1 x5 x6 x7 x8 (decide (x8 < (x1.length : Int)))) else (ferrulelaw13_BlocksVictim.j1 k x0 x1 x5 x6 x7 x8 false)
def ferrulelaw13_BlocksVictim.j1 : Nat → List Int → List Bool → Int → Bool → Bool → Int → Bool → Option (Bool)
  | 0, _, _, _, _, _, _, _ => none
  | k + 1, x0, x1, x5, x6, x7, x8, x26 => if x26 = true then (if x7 = true then (if 0 ≤ x8 then (if x8 < (x1.length : Int) then (if rdOf false x1 x8 = true then (if x6 = true then (if x5 < 0 then (some false) else (if x5 ≥ (x0.length : Int) then (some false) else (if x8 < (x0.length : Int) then (if 0 ≤ x5 then (if x5 < (x0.length : Int) then (if (rd x0 x8) < (rd x0 x5) then (some false) else (if (rd x0 x8) = (rd x0 x5) then (if x8 < x5 then (some false) else (ferrulelaw13_BlocksVictim.l0 k x0 x1 x5 x6 true (wrap64 (x8 + 1)))) else (ferrulelaw13_BlocksVictim.l0 k x0 x1 x5 x6 true (wrap64 (x8 + 1))))) else (none)) else (none)) else (none)))) else (ferrulelaw13_BlocksVictim.l0 k x0 x1 x5 x6 true (wrap64 (x8 + 1)))) else (ferrulelaw13_BlocksVictim.l0 k x0 x1 x5 x6 true (wrap64 (x8 + 1)))) else (none)) else (none)) else (if 0 ≤ x8 then (if x8 < (x1.length : Int) then (if rdOf false x1 x8 = true then (if x6 = true then (if x5 < 0 then (some false) else (if x5 ≥ (x0.length : Int) then (some false) else (if x8 < (x0.length : Int) then (if 0 ≤ x5 then (if x5 < (x0.length : Int) then (if (rd x0 x8) < (rd x0 x5) then (some false) else (if (rd x0 x8) = (rd x0 x5) then (if x8 < x5 then (some false) else (ferrulelaw13_BlocksVictim.l0 k x0 x1 x5 x6 (rdOf false x1 x8) (wrap64 (x8 + 1)))) else (ferrulelaw13_BlocksVictim.l0 k x0 x1 x5 x6 (rdOf false x1 x8) (wrap64 (x8 + 1))))) else (none)) else (none)) else (none)))) else (ferrulelaw13_BlocksVictim.l0 k x0 x1 x5 x6 (rdOf false x1 x8) (wrap64 (x8 + 1)))) else (ferrulelaw13_BlocksVictim.l0 k x0 x1 x5 x6 (rdOf false x1 x8) (wrap64 (x8 + 1)))) else (none)) else (none))) else (if (x6 == x7) = true then (if x6 = true then (if x5 < (x1.length : Int) then (if 0 ≤ x5 then (if rdOf false x1 x5 = true then (some true) else (some false)) else (none)) else (some false)) else (some (x5 == 0))) else (some false))
end
def ferrulelaw13_BlocksVictim.f (k : Nat) (l0 : List Int) (l1 : List Bool) : Option (Bool) := (ferrulelaw13_awake.f k).bind fun t176 => (if t176 = true then ((blocks_Victim.f k l0 l1).bind fun bt177 => (ferrulelaw13_BlocksVictim.l0 k l0 l1 bt177.1 bt177.2 false 0)) else (some false))
theorem ferrulelaw13_BlocksVictim.mono_l : ∀ k, (∀ y0 y1 y2 y3 y4 y5, LeO (ferrulelaw13_BlocksVictim.l0 k y0 y1 y2 y3 y4 y5) (ferrulelaw13_BlocksVictim.l0 (k + 1) y0 y1 y2 y3 y4 y5)) ∧ (∀ y0 y1 y2 y3 y4 y5 y6, LeO (ferrulelaw13_BlocksVictim.j1 k y0 y1 y2 y3 y4 y5 y6) (ferrulelaw13_BlocksVictim.j1 (k + 1) y0 y1 y2 y3 y4 y5 y6))
  | 0 => ⟨fun _ _ _ _ _ _ r h => by simp [ferrulelaw13_BlocksVictim.l0] at h, fun _ _ _ _ _ _ _ r h => by simp [ferrulelaw13_BlocksVictim.j1] at h⟩
  | k + 1 => by
    obtain ⟨ih0, ih1⟩ := ferrulelaw13_BlocksVictim.mono_l k
    refine ⟨?_, ?_⟩
    · intro y0 y1 y2 y3 y4 y5
      unfold ferrulelaw13_BlocksVictim.l0
      repeat' first
      | (with_reducible exact ih0 _ _ _ _ _ _)
      | (with_reducible exact ih1 _ _ _ _ _ _ _)
      | (with_reducible exact blocks_Victim.mono _ _ _)
      | (with_reducible exact ferrulelaw13_awake.mono _)
      | (with_reducible exact LeO.refl _)
      | (with_reducible exact LeO.none _)
      | (with_reducible refine LeO.ite ?_ ?_)
      | (with_reducible refine LeO.bind ?_ (fun _ => ?_))
      | exact ih0 _ _ _ _ _ _
      | exact ih1 _ _ _ _ _ _ _
      | exact blocks_Victim.mono _ _ _
      | exact ferrulelaw13_awake.mono _
      | exact LeO.none _
      | refine LeO.ite ?_ ?_
      | refine LeO.bind ?_ (fun _ => ?_)
    · intro y0 y1 y2 y3 y4 y5 y6
      unfold ferrulelaw13_BlocksVictim.j1
      repeat' first
      | (with_reducible exact ih0 _ _ _ _ _ _)
      | (with_reducible exact ih1 _ _ _ _ _ _ _)
      | (with_reducible exact blocks_Victim.mono _ _ _)
      | (with_reducible exact ferrulelaw13_awake.mono _)
      | (with_reducible exact LeO.refl _)
      | (with_reducible exact LeO.none _)
      | (with_reducible refine LeO.ite ?_ ?_)
      | (with_reducible refine LeO.bind ?_ (fun _ => ?_))
      | exact ih0 _ _ _ _ _ _
      | exact ih1 _ _ _ _ _ _ _
      | exact blocks_Victim.mono _ _ _
      | exact ferrulelaw13_awake.mono _
      | exact LeO.none _
      | refine LeO.ite ?_ ?_
      | refine LeO.bind ?_ (fun _ => ?_)
theorem ferrulelaw13_BlocksVictim.mono : ∀ a0 a1 k, LeO (ferrulelaw13_BlocksVictim.f k a0 a1) (ferrulelaw13_BlocksVictim.f (k + 1) a0 a1) := by
  intro a0 a1 k
  obtain ⟨ih0, ih1⟩ := ferrulelaw13_BlocksVictim.mono_l k
  unfold ferrulelaw13_BlocksVictim.f
  repeat' first
      | (with_reducible exact ih0 _ _ _ _ _ _)
      | (with_reducible exact ih1 _ _ _ _ _ _ _)
      | (with_reducible exact blocks_Victim.mono _ _ _)
      | (with_reducible exact ferrulelaw13_awake.mono _)
      | (with_reducible exact LeO.refl _)
      | (with_reducible exact LeO.none _)
      | (with_reducible refine LeO.ite ?_ ?_)
      | (with_reducible refine LeO.bind ?_ (fun _ => ?_))
      | exact ih0 _ _ _ _ _ _
      | exact ih1 _ _ _ _ _ _ _
      | exact blocks_Victim.mono _ _ _
      | exact ferrulelaw13_awake.mono _
      | exact LeO.none _
      | refine LeO.ite ?_ ?_
      | refine LeO.bind ?_ (fun _ => ?_)
set_option maxHeartbeats 8000000 in
set_option maxRecDepth 100000 in
theorem ferrulelaw13_BlocksVictim.calls (k : Nat) (A0 : Option Addr) (c0 : Nat) (l0 : List Int) (A1 : Option Addr) (c1 : Nat) (l1 : List Bool) (r : Bool) (w : World) (hr0 : Kd.C (Kd.int .i64) w A0 l0.length l0) (hc0 : l0.length ≤ c0) (hr1 : Kd.C Kd.bool w A1 l1.length l1) (hc1 : l1.length ≤ c1) (h : ferrulelaw13_BlocksVictim.f k l0 l1 = some r) :
    Calls Try.prog 5 #[.slice A0 l0.length c0, .slice A1 l1.length c1] w fun e w' => e = .returned (.bool r) ∧ Below w.heap.size w w' := by
  have HR0 := Aside0.mk hr0
  have HC0 := Aside0.mk hc0
  clear hr0 hc0
  have HR1 := Aside0.mk hr1
  have HC1 := Aside0.mk hc1
  clear hr1 hc1
  have HB := Aside0.mk (Below.refl w.heap.size w)
  have H : ((ferrulelaw13_awake.f k).bind fun t176 => (if t176 = true then ((blocks_Victim.f k l0 l1).bind fun bt177 => (ferrulelaw13_BlocksVictim.l0 k l0 l1 bt177.1 bt177.2 false 0)) else (some false))) = some r := h
  clear h
  replace H := Option.bind_eq_some_iff.mp H
  obtain ⟨t176, A30, H⟩ := H
  replace H : (if t176 = true then ((blocks_Victim.f k l0 l1).bind fun bt177 => (ferrulelaw13_BlocksVictim.l0 k l0 l1 bt177.1 bt177.2 false 0)) else (some false)) = some r := H
  have A3 := Aside0.mk A30
  clear A30
  by_cases c4 : t176 = true
  · subst c4
    have H1 : ((blocks_Victim.f k l0 l1).bind fun bt177 => (ferrulelaw13_BlocksVictim.l0 k l0 l1 bt177.1 bt177.2 false 0)) = some r := by rw [if_pos rfl] at H; exact H
    clear H
    have H := H1
    clear H1
    replace H := Option.bind_eq_some_iff.mp H
    obtain ⟨⟨t177, t178⟩, A50, H⟩ := H
    replace H : (ferrulelaw13_BlocksVictim.l0 k l0 l1 t177 t178 false 0) = some r := H
    have A5 := Aside0.mk A50
    clear A50
    have H' := Aside0.mk H
    clear H
    go_enter Try.func5, Try.ntmps5
    go_wp2_with (first | (go_at_call 8; (with_reducible refine (ferrulelaw13_awake.calls k  true _ A3.out).mono ?_); rintro e w6 ⟨rfl, hb⟩; have n0_ := Aside0.mk (below_step (by repeat (first | (with_reducible first | exact HB.out | apply below_alloc | apply pw_below_drewN | apply below_drew1) | exact HB.out)) hb); clear HB; have HB := n0_; clear n0_; (try clear hb); (try clear hb2); (try clear hk); (try clear hi)) | (go_at_call 12; (with_reducible refine (blocks_Victim.calls k _ _ l0 _ _ l1 t177 t178 _ ?side1 ?side2 ?side3 ?side4 A5.out).mono ?_); (case side1 => repeat (first | exact (Kd.C_below HR0.out HB.out) | (with_reducible refine Kd.C_alloc ?_ _) | (with_reducible refine Kd.C_drewN ?_ _) | (with_reducible refine Kd.C_drew ?_))); (case side2 => exact HC0.out); (case side3 => repeat (first | exact (Kd.C_below HR1.out HB.out) | (with_reducible refine Kd.C_alloc ?_ _) | (with_reducible refine Kd.C_drewN ?_ _) | (with_reducible refine Kd.C_drew ?_))); (case side4 => exact HC1.out); rintro e w7 ⟨rfl, hb⟩; have n0_ := Aside0.mk (below_step (by repeat (first | (with_reducible first | exact HB.out | apply below_alloc | apply pw_below_drewN | apply below_drew1) | exact HB.out)) hb); clear HB; have HB := n0_; clear n0_; (try clear hb); (try clear hb2); (try clear hk); (try clear hi)))
    repeat (go_quiet (first | (go_at_call 8; (with_reducible refine (ferrulelaw13_awake.calls k  true _ A3.out).mono ?_); rintro e w6 ⟨rfl, hb⟩; have n0_ := Aside0.mk (below_step (by repeat (first | (with_reducible first | exact HB.out | apply below_alloc | apply pw_below_drewN | apply below_drew1) | exact HB.out)) hb); clear HB; have HB := n0_; clear n0_; (try clear hb); (try clear hb2); (try clear hk); (try clear hi)) | (go_at_call 12; (with_reducible refine (blocks_Victim.calls k _ _ l0 _ _ l1 t177 t178 _ ?side1 ?side2 ?side3 ?side4 A5.out).mono ?_); (case side1 => repeat (first | exact (Kd.C_below HR0.out HB.out) | (with_reducible refine Kd.C_alloc ?_ _) | (with_reducible refine Kd.C_drewN ?_ _) | (with_reducible refine Kd.C_drew ?_))); (case side2 => exact HC0.out); (case side3 => repeat (first | exact (Kd.C_below HR1.out HB.out) | (with_reducible refine Kd.C_alloc ?_ _) | (with_reducible refine Kd.C_drewN ?_ _) | (with_reducible refine Kd.C_drew ?_))); (case side4 => exact HC1.out); rintro e w7 ⟨rfl, hb⟩; have n0_ := Aside0.mk (below_step (by repeat (first | (with_reducible first | exact HB.out | apply below_alloc | apply pw_below_drewN | apply below_drew1) | exact HB.out)) hb); clear HB; have HB := n0_; clear n0_; (try clear hb); (try clear hb2); (try clear hk); (try clear hi))); try go_wp2_with (first | (go_at_call 8; (with_reducible refine (ferrulelaw13_awake.calls k  true _ A3.out).mono ?_); rintro e w6 ⟨rfl, hb⟩; have n0_ := Aside0.mk (below_step (by repeat (first | (with_reducible first | exact HB.out | apply below_alloc | apply pw_below_drewN | apply below_drew1) | exact HB.out)) hb); clear HB; have HB := n0_; clear n0_; (try clear hb); (try clear hb2); (try clear hk); (try clear hi)) | (go_at_call 12; (with_reducible refine (blocks_Victim.calls k _ _ l0 _ _ l1 t177 t178 _ ?side1 ?side2 ?side3 ?side4 A5.out).mono ?_); (case side1 => repeat (first | exact (Kd.C_below HR0.out HB.out) | (with_reducible refine Kd.C_alloc ?_ _) | (with_reducible refine Kd.C_drewN ?_ _) | (with_reducible refine Kd.C_drew ?_))); (case side2 => exact HC0.out); (case side3 => repeat (first | exact (Kd.C_below HR1.out HB.out) | (with_reducible refine Kd.C_alloc ?_ _) | (with_reducible refine Kd.C_drewN ?_ _) | (with_reducible refine Kd.C_drew ?_))); (case side4 => exact HC1.out); rintro e w7 ⟨rfl, hb⟩; have n0_ := Aside0.mk (below_step (by repeat (first | (with_reducible first | exact HB.out | apply below_alloc | apply pw_below_drewN | apply below_drew1) | exact HB.out)) hb); clear HB; have HB := n0_; clear n0_; (try clear hb); (try clear hb2); (try clear hk); (try clear hi))))
    go_loopg [7, 8] k (fun kq v7 v8 w' => ∃ (x7_1 : Bool) (x8_1 : Int), v7 = .bool x7_1 ∧ v8 = .int .i64 x8_1 ∧ Aside0 (ferrulelaw13_BlocksVictim.l0 kq l0 l1 t177 t178 x7_1 x8_1 = some r) ∧ Aside0 (kq ≤ k) ∧ Aside0 (Below w.heap.size w w'))
    case atStart => exact ⟨(false), (0), (by first | rfl | (simp; done) | (simp [*]; done)), (by first | rfl | (simp; done) | (simp [*]; done)), H', ⟨Nat.le_refl _⟩, ⟨by repeat (first | (with_reducible first | exact HB.out | apply below_alloc | apply pw_below_drewN | apply below_drew1) | exact HB.out)⟩⟩
    case round =>
      clear H'
      try clear c1
      try clear p2
      try clear c4
      try clear c5
      obtain ⟨x7_1, x8_1, rfl, rfl, HA, HK1, HB⟩ := hrel
      cases gk with
      | zero => exact absurd HA.out (by simp [ferrulelaw13_BlocksVictim.l0])
      | succ k1 =>
        have H := HA.out
        clear HA
        simp only [ferrulelaw13_BlocksVictim.l0] at H
        have HC8 := Aside0.mk H
        clear H
        go_upto_region 6 with (fail)
        repeat (go_quiet (fail); go_upto_region 6 with (fail))
        go_cut [26] (fun v26 wc => ∃ (kq : Nat) (x26_7 : Bool), v26 = .bool x26_7 ∧ Aside0 (ferrulelaw13_BlocksVictim.j1 kq l0 l1 t177 t178 x7_1 x8_1 x26_7 = some r) ∧ Aside0 (kq ≤ k1) ∧ Aside0 (Below w.heap.size w wc))
        case first =>
          have H := HC8.out
          clear HC8
          by_cases c9 : x8_1 < (l0.length : Int)
          · rw [if_pos c9] at H
            have c9b0 : decide (x8_1 < (l0.length : Int)) = true := decide_eq_true c9
            clear c9
            (first | rw [c9b0] | (simp only [i64_w, i32_w]; rw [c9b0]) | skip)
            have H' := Aside0.mk H
            clear H
            go_wp2
            repeat (go_quiet (fail); try go_wp2)
            go_meet
            case rel => exact ⟨_, (decide (x8_1 < (l1.length : Int))), (by first | rfl | (simp; done) | (simp [*]; done)), H', ⟨by have := HK1.out; first | omega | exact Nat.le_refl _⟩, ⟨by repeat (first | (with_reducible first | exact HB.out | apply below_alloc | apply pw_below_drewN | apply below_drew1) | exact HB.out)⟩⟩
          · rw [if_neg c9] at H
            have c9b0 : decide (x8_1 < (l0.length : Int)) = false := decide_eq_false c9
            clear c9
            (first | rw [c9b0] | (simp only [i64_w, i32_w]; rw [c9b0]) | skip)
            have H' := Aside0.mk H
            clear H
            go_wp2
            repeat (go_quiet (fail); try go_wp2)
            go_meet
            case rel => exact ⟨_, (false), (by first | rfl | (simp; done) | (simp [*]; done)), H', ⟨by have := HK1.out; first | omega | exact Nat.le_refl _⟩, ⟨by repeat (first | (with_reducible first | exact HB.out | apply below_alloc | apply pw_below_drewN | apply below_drew1) | exact HB.out)⟩⟩
        case rest =>
          clear HC8
          try clear c1
          try clear p2
          try clear c4
          try clear c5
          try clear c9
          try clear c9b0
          try clear p2
          obtain ⟨kq, x26_7, rfl, HA, HJ7, HB⟩ := hcut
          cases kq with
          | zero => exact absurd HA.out (by simp [ferrulelaw13_BlocksVictim.j1])
          | succ kj7 =>
            have H := HA.out
            clear HA
            simp only [ferrulelaw13_BlocksVictim.j1] at H
            by_cases c10 : x26_7 = true
            · subst c10
              have H1 : (if x7_1 = true then (if 0 ≤ x8_1 then (if x8_1 < (l1.length : Int) then (if rdOf false l1 x8_1 = true then (if t178 = true then (if t177 < 0 then (some false) else (if t177 ≥ (l0.length : Int) then (some false) else (if x8_1 < (l0.length : Int) then (if 0 ≤ t177 then (if t177 < (l0.length : Int) then (if (rd l0 x8_1) < (rd l0 t177) then (some false) else (if (rd l0 x8_1) = (rd l0 t177) then (if x8_1 < t177 then (some false) else (ferrulelaw13_BlocksVictim.l0 kj7 l0 l1 t177 t178 true (wrap64 (x8_1 + 1)))) else (ferrulelaw13_BlocksVictim.l0 kj7 l0 l1 t177 t178 true (wrap64 (x8_1 + 1))))) else (none)) else (none)) else (none)))) else (ferrulelaw13_BlocksVictim.l0 kj7 l0 l1 t177 t178 true (wrap64 (x8_1 + 1)))) else (ferrulelaw13_BlocksVictim.l0 kj7 l0 l1 t177 t178 true (wrap64 (x8_1 + 1)))) else (none)) else (none)) else (if 0 ≤ x8_1 then (if x8_1 < (l1.length : Int) then (if rdOf false l1 x8_1 = true then (if t178 = true then (if t177 < 0 then (some false) else (if t177 ≥ (l0.length : Int) then (some false) else (if x8_1 < (l0.length : Int) then (if 0 ≤ t177 then (if t177 < (l0.length : Int) then (if (rd l0 x8_1) < (rd l0 t177) then (some false) else (if (rd l0 x8_1) = (rd l0 t177) then (if x8_1 < t177 then (some false) else (ferrulelaw13_BlocksVictim.l0 kj7 l0 l1 t177 t178 (rdOf false l1 x8_1) (wrap64 (x8_1 + 1)))) else (ferrulelaw13_BlocksVictim.l0 kj7 l0 l1 t177 t178 (rdOf false l1 x8_1) (wrap64 (x8_1 + 1))))) else (none)) else (none)) else (none)))) else (ferrulelaw13_BlocksVictim.l0 kj7 l0 l1 t177 t178 (rdOf false l1 x8_1) (wrap64 (x8_1 + 1)))) else (ferrulelaw13_BlocksVictim.l0 kj7 l0 l1 t177 t178 (rdOf false l1 x8_1) (wrap64 (x8_1 + 1)))) else (none)) else (none))) = some r := by rw [if_pos rfl] at H; exact H
              clear H
              have H := H1
              clear H1
              by_cases c11 : x7_1 = true
              · subst c11
                have H1 : (if 0 ≤ x8_1 then (if x8_1 < (l1.length : Int) then (if rdOf false l1 x8_1 = true then (if t178 = true then (if t177 < 0 then (some false) else (if t177 ≥ (l0.length : Int) then (some false) else (if x8_1 < (l0.length : Int) then (if 0 ≤ t177 then (if t177 < (l0.length : Int) then (if (rd l0 x8_1) < (rd l0 t177) then (some false) else (if (rd l0 x8_1) = (rd l0 t177) then (if x8_1 < t177 then (some false) else (ferrulelaw13_BlocksVictim.l0 kj7 l0 l1 t177 t178 true (wrap64 (x8_1 + 1)))) else (ferrulelaw13_BlocksVictim.l0 kj7 l0 l1 t177 t178 true (wrap64 (x8_1 + 1))))) else (none)) else (none)) else (none)))) else (ferrulelaw13_BlocksVictim.l0 kj7 l0 l1 t177 t178 true (wrap64 (x8_1 + 1)))) else (ferrulelaw13_BlocksVictim.l0 kj7 l0 l1 t177 t178 true (wrap64 (x8_1 + 1)))) else (none)) else (none)) = some r := by rw [if_pos rfl] at H; exact H
                clear H
                have H := H1
                clear H1
                by_cases c12 : 0 ≤ x8_1
                · rw [if_pos c12] at H
                  have c12b0 : decide (0 ≤ x8_1) = true := decide_eq_true c12
                  clear c12
                  by_cases c13 : x8_1 < (l1.length : Int)
                  · rw [if_pos c13] at H
                    have c13b0 : decide (x8_1 < (l1.length : Int)) = true := decide_eq_true c13
                    clear c13
                    obtain ⟨bq14, hbq14⟩ : ∃ b_ : Bool, b_ = (rdOf false l1 x8_1) := ⟨_, rfl⟩
                    replace H : (if bq14 = true then (if t178 = true then (if t177 < 0 then (some false) else (if t177 ≥ (l0.length : Int) then (some false) else (if x8_1 < (l0.length : Int) then (if 0 ≤ t177 then (if t177 < (l0.length : Int) then (if (rd l0 x8_1) < (rd l0 t177) then (some false) else (if (rd l0 x8_1) = (rd l0 t177) then (if x8_1 < t177 then (some false) else (ferrulelaw13_BlocksVictim.l0 kj7 l0 l1 t177 t178 true (wrap64 (x8_1 + 1)))) else (ferrulelaw13_BlocksVictim.l0 kj7 l0 l1 t177 t178 true (wrap64 (x8_1 + 1))))) else (none)) else (none)) else (none)))) else (ferrulelaw13_BlocksVictim.l0 kj7 l0 l1 t177 t178 true (wrap64 (x8_1 + 1)))) else (ferrulelaw13_BlocksVictim.l0 kj7 l0 l1 t177 t178 true (wrap64 (x8_1 + 1)))) = some r := by rw [← hbq14] at H; exact H
                    have Nbq14 := Aside0.mk hbq14
                    clear hbq14
                    by_cases c15 : bq14 = true
                    · subst c15
                      have H1 : (if t178 = true then (if t177 < 0 then (some false) else (if t177 ≥ (l0.length : Int) then (some false) else (if x8_1 < (l0.length : Int) then (if 0 ≤ t177 then (if t177 < (l0.length : Int) then (if (rd l0 x8_1) < (rd l0 t177) then (some false) else (if (rd l0 x8_1) = (rd l0 t177) then (if x8_1 < t177 then (some false) else (ferrulelaw13_BlocksVictim.l0 kj7 l0 l1 t177 t178 true (wrap64 (x8_1 + 1)))) else (ferrulelaw13_BlocksVictim.l0 kj7 l0 l1 t177 t178 true (wrap64 (x8_1 + 1))))) else (none)) else (none)) else (none)))) else (ferrulelaw13_BlocksVictim.l0 kj7 l0 l1 t177 t178 true (wrap64 (x8_1 + 1)))) = some r := by rw [if_pos rfl] at H; exact H
                      clear H
                      have H := H1
                      clear H1
                      by_cases c16 : t178 = true
                      · subst c16
                        have H1 : (if t177 < 0 then (some false) else (if t177 ≥ (l0.length : Int) then (some false) else (if x8_1 < (l0.length : Int) then (if 0 ≤ t177 then (if t177 < (l0.length : Int) then (if (rd l0 x8_1) < (rd l0 t177) then (some false) else (if (rd l0 x8_1) = (rd l0 t177) then (if x8_1 < t177 then (some false) else (ferrulelaw13_BlocksVictim.l0 kj7 l0 l1 t177 true true (wrap64 (x8_1 + 1)))) else (ferrulelaw13_BlocksVictim.l0 kj7 l0 l1 t177 true true (wrap64 (x8_1 + 1))))) else (none)) else (none)) else (none)))) = some r := by rw [if_pos rfl] at H; exact H
                        clear H
                        have H := H1
                        clear H1
                        by_cases c17 : t177 < 0
                        · rw [if_pos c17] at H
                          have c17b0 : decide (t177 < 0) = true := decide_eq_true c17
                          clear c17
                          obtain rfl := Option.some.inj H
                          have p179 : 0 ≤ (x8_1 : Int) := of_decide_eq_true (by first | (with_reducible assumption) | assumption)
                          have q179 : x8_1 < (l1.length : Int) := of_decide_eq_true (by first | (with_reducible assumption) | assumption)
                          obtain ⟨ad179, e179, hx179_0⟩ := Kd.at_bool HR1.out x8_1 p179 q179
                          (try rw [← Nbq14.out] at hx179_0)
                          cases e179
                          replace hx179_0 := (HB.out.cell (World.block_lt_of_cell? w _ hx179_0)).trans hx179_0
                          replace p179 := eq_true p179
                          replace q179 := eq_true q179
                          go_wp2
                          repeat (go_quiet (fail); try go_wp2)
                          go_ret
                          exact ⟨by first | rfl | (simp [errW_none, errW_some] <;> rfl) | (simp [*, errW_none, errW_some] <;> rfl), by repeat (first | (with_reducible first | exact HB.out | apply below_alloc | apply pw_below_drewN | apply below_drew1) | exact HB.out)⟩
                        · rw [if_neg c17] at H
                          have c17b0 : decide (t177 < 0) = false := decide_eq_false c17
                          clear c17
                          by_cases c18 : t177 ≥ (l0.length : Int)
                          · rw [if_pos c18] at H
                            have c18b0 : decide ((l0.length : Int) ≤ t177) = true := decide_eq_true c18
                            clear c18
                            obtain rfl := Option.some.inj H
                            have p179 : 0 ≤ (x8_1 : Int) := of_decide_eq_true (by first | (with_reducible assumption) | assumption)
                            have q179 : x8_1 < (l1.length : Int) := of_decide_eq_true (by first | (with_reducible assumption) | assumption)
                            obtain ⟨ad179, e179, hx179_0⟩ := Kd.at_bool HR1.out x8_1 p179 q179
                            (try rw [← Nbq14.out] at hx179_0)
                            cases e179
                            replace hx179_0 := (HB.out.cell (World.block_lt_of_cell? w _ hx179_0)).trans hx179_0
                            replace p179 := eq_true p179
                            replace q179 := eq_true q179
                            go_wp2
                            repeat (go_quiet (fail); try go_wp2)
                            go_ret
                            exact ⟨by first | rfl | (simp [errW_none, errW_some] <;> rfl) | (simp [*, errW_none, errW_some] <;> rfl), by repeat (first | (with_reducible first | exact HB.out | apply below_alloc | apply pw_below_drewN | apply below_drew1) | exact HB.out)⟩
                          · rw [if_neg c18] at H
                            have c18b0 : decide ((l0.length : Int) ≤ t177) = false := decide_eq_false c18
                            clear c18
                            by_cases c19 : x8_1 < (l0.length : Int)
                            · rw [if_pos c19] at H
                              have c19b0 : decide (x8_1 < (l0.length : Int)) = true := decide_eq_true c19
                              clear c19
                              by_cases c20 : 0 ≤ t177
                              · rw [if_pos c20] at H
                                have c20b0 : decide (0 ≤ t177) = true := decide_eq_true c20
                                clear c20
                                by_cases c21 : t177 < (l0.length : Int)
                                · rw [if_pos c21] at H
                                  have c21b0 : decide (t177 < (l0.length : Int)) = true := decide_eq_true c21
                                  clear c21
                                  by_cases c22 : (rd l0 x8_1) < (rd l0 t177)
                                  · rw [if_pos c22] at H
                                    have c22b0 : decide ((rd l0 x8_1) < (rd l0 t177)) = true := decide_eq_true c22
                                    clear c22
                                    obtain rfl := Option.some.inj H
                                    have p179 : 0 ≤ (x8_1 : Int) := of_decide_eq_true (by first | (with_reducible assumption) | assumption)
                                    have q179 : x8_1 < (l1.length : Int) := of_decide_eq_true (by first | (with_reducible assumption) | assumption)
                                    obtain ⟨ad179, e179, hx179_0⟩ := Kd.at_bool HR1.out x8_1 p179 q179
                                    (try rw [← Nbq14.out] at hx179_0)
                                    cases e179
                                    replace hx179_0 := (HB.out.cell (World.block_lt_of_cell? w _ hx179_0)).trans hx179_0
                                    replace p179 := eq_true p179
                                    replace q179 := eq_true q179
                                    have p180 : 0 ≤ (x8_1 : Int) := of_decide_eq_true (by first | (with_reducible assumption) | assumption)
                                    have q180 : x8_1 < (l0.length : Int) := of_decide_eq_true (by first | (with_reducible assumption) | assumption)
                                    obtain ⟨ad180, e180, hx180_0⟩ := Kd.at_int HR0.out x8_1 p180 q180
                                    cases e180
                                    replace hx180_0 := (HB.out.cell (World.block_lt_of_cell? w _ hx180_0)).trans hx180_0
                                    replace p180 := eq_true p180
                                    replace q180 := eq_true q180
                                    have p181 : 0 ≤ (t177 : Int) := of_decide_eq_true (by first | (with_reducible assumption) | assumption)
                                    have q181 : t177 < (l0.length : Int) := of_decide_eq_true (by first | (with_reducible assumption) | assumption)
                                    obtain ⟨ad181, e181, hx181_0⟩ := Kd.at_int HR0.out t177 p181 q181
                                    obtain rfl : ad180 = ad181 := (by injection e181)
                                    replace hx181_0 := (HB.out.cell (World.block_lt_of_cell? w _ hx181_0)).trans hx181_0
                                    replace p181 := eq_true p181
                                    replace q181 := eq_true q181
                                    go_wp2
                                    repeat (go_quiet (fail); try go_wp2)
                                    go_ret
                                    exact ⟨by first | rfl | (simp [errW_none, errW_some] <;> rfl) | (simp [*, errW_none, errW_some] <;> rfl), by repeat (first | (with_reducible first | exact HB.out | apply below_alloc | apply pw_below_drewN | apply below_drew1) | exact HB.out)⟩
                                  · rw [if_neg c22] at H
                                    have c22b0 : decide ((rd l0 x8_1) < (rd l0 t177)) = false := decide_eq_false c22
                                    clear c22
                                    by_cases c23 : (rd l0 x8_1) = (rd l0 t177)
                                    · rw [if_pos c23] at H
                                      have c23b0 : ((rd l0 x8_1) == (rd l0 t177)) = true := beq_iff_eq.mpr c23
                                      have c23b1 : ((rd l0 x8_1) != (rd l0 t177)) = false := bne_eq_false_iff_eq.mpr c23
                                      clear c23
                                      by_cases c24 : x8_1 < t177
                                      · rw [if_pos c24] at H
                                        have c24b0 : decide (x8_1 < t177) = true := decide_eq_true c24
                                        clear c24
                                        obtain rfl := Option.some.inj H
                                        have p179 : 0 ≤ (x8_1 : Int) := of_decide_eq_true (by first | (with_reducible assumption) | assumption)
                                        have q179 : x8_1 < (l1.length : Int) := of_decide_eq_true (by first | (with_reducible assumption) | assumption)
                                        obtain ⟨ad179, e179, hx179_0⟩ := Kd.at_bool HR1.out x8_1 p179 q179
                                        (try rw [← Nbq14.out] at hx179_0)
                                        cases e179
                                        replace hx179_0 := (HB.out.cell (World.block_lt_of_cell? w _ hx179_0)).trans hx179_0
                                        replace p179 := eq_true p179
                                        replace q179 := eq_true q179
                                        have p180 : 0 ≤ (x8_1 : Int) := of_decide_eq_true (by first | (with_reducible assumption) | assumption)
                                        have q180 : x8_1 < (l0.length : Int) := of_decide_eq_true (by first | (with_reducible assumption) | assumption)
                                        obtain ⟨ad180, e180, hx180_0⟩ := Kd.at_int HR0.out x8_1 p180 q180
                                        cases e180
                                        replace hx180_0 := (HB.out.cell (World.block_lt_of_cell? w _ hx180_0)).trans hx180_0
                                        replace p180 := eq_true p180
                                        replace q180 := eq_true q180
                                        have p181 : 0 ≤ (t177 : Int) := of_decide_eq_true (by first | (with_reducible assumption) | assumption)
                                        have q181 : t177 < (l0.length : Int) := of_decide_eq_true (by first | (with_reducible assumption) | assumption)
                                        obtain ⟨ad181, e181, hx181_0⟩ := Kd.at_int HR0.out t177 p181 q181
                                        obtain rfl : ad180 = ad181 := (by injection e181)
                                        replace hx181_0 := (HB.out.cell (World.block_lt_of_cell? w _ hx181_0)).trans hx181_0
                                        replace p181 := eq_true p181
                                        replace q181 := eq_true q181
                                        have p182 : 0 ≤ (x8_1 : Int) := of_decide_eq_true (by first | (with_reducible assumption) | assumption)
                                        have q182 : x8_1 < (l0.length : Int) := of_decide_eq_true (by first | (with_reducible assumption) | assumption)
                                        obtain ⟨ad182, e182, hx182_0⟩ := Kd.at_int HR0.out x8_1 p182 q182
                                        obtain rfl : ad180 = ad182 := (by injection e182)
                                        replace hx182_0 := (HB.out.cell (World.block_lt_of_cell? w _ hx182_0)).trans hx182_0
                                        replace p182 := eq_true p182
                                        replace q182 := eq_true q182
                                        have p183 : 0 ≤ (t177 : Int) := of_decide_eq_true (by first | (with_reducible assumption) | assumption)
                                        have q183 : t177 < (l0.length : Int) := of_decide_eq_true (by first | (with_reducible assumption) | assumption)
                                        obtain ⟨ad183, e183, hx183_0⟩ := Kd.at_int HR0.out t177 p183 q183
                                        obtain rfl : ad180 = ad183 := (by injection e183)
                                        replace hx183_0 := (HB.out.cell (World.block_lt_of_cell? w _ hx183_0)).trans hx183_0
                                        replace p183 := eq_true p183
                                        replace q183 := eq_true q183
                                        go_wp2
                                        repeat (go_quiet (fail); try go_wp2)
                                        go_ret
                                        exact ⟨by first | rfl | (simp [errW_none, errW_some] <;> rfl) | (simp [*, errW_none, errW_some] <;> rfl), by repeat (first | (with_reducible first | exact HB.out | apply below_alloc | apply pw_below_drewN | apply below_drew1) | exact HB.out)⟩
                                      · rw [if_neg c24] at H
                                        have c24b0 : decide (x8_1 < t177) = false := decide_eq_false c24
                                        clear c24
                                        have H' := Aside0.mk H
                                        clear H
                                        have p179 : 0 ≤ (x8_1 : Int) := of_decide_eq_true (by first | (with_reducible assumption) | assumption)
                                        have q179 : x8_1 < (l1.length : Int) := of_decide_eq_true (by first | (with_reducible assumption) | assumption)
                                        obtain ⟨ad179, e179, hx179_0⟩ := Kd.at_bool HR1.out x8_1 p179 q179
                                        (try rw [← Nbq14.out] at hx179_0)
                                        cases e179
                                        replace hx179_0 := (HB.out.cell (World.block_lt_of_cell? w _ hx179_0)).trans hx179_0
                                        replace p179 := eq_true p179
                                        replace q179 := eq_true q179
                                        have p180 : 0 ≤ (x8_1 : Int) := of_decide_eq_true (by first | (with_reducible assumption) | assumption)
                                        have q180 : x8_1 < (l0.length : Int) := of_decide_eq_true (by first | (with_reducible assumption) | assumption)
                                        obtain ⟨ad180, e180, hx180_0⟩ := Kd.at_int HR0.out x8_1 p180 q180
                                        cases e180
                                        replace hx180_0 := (HB.out.cell (World.block_lt_of_cell? w _ hx180_0)).trans hx180_0
                                        replace p180 := eq_true p180
                                        replace q180 := eq_true q180
                                        have p181 : 0 ≤ (t177 : Int) := of_decide_eq_true (by first | (with_reducible assumption) | assumption)
                                        have q181 : t177 < (l0.length : Int) := of_decide_eq_true (by first | (with_reducible assumption) | assumption)
                                        obtain ⟨ad181, e181, hx181_0⟩ := Kd.at_int HR0.out t177 p181 q181
                                        obtain rfl : ad180 = ad181 := (by injection e181)
                                        replace hx181_0 := (HB.out.cell (World.block_lt_of_cell? w _ hx181_0)).trans hx181_0
                                        replace p181 := eq_true p181
                                        replace q181 := eq_true q181
                                        have p182 : 0 ≤ (x8_1 : Int) := of_decide_eq_true (by first | (with_reducible assumption) | assumption)
                                        have q182 : x8_1 < (l0.length : Int) := of_decide_eq_true (by first | (with_reducible assumption) | assumption)
                                        obtain ⟨ad182, e182, hx182_0⟩ := Kd.at_int HR0.out x8_1 p182 q182
                                        obtain rfl : ad180 = ad182 := (by injection e182)
                                        replace hx182_0 := (HB.out.cell (World.block_lt_of_cell? w _ hx182_0)).trans hx182_0
                                        replace p182 := eq_true p182
                                        replace q182 := eq_true q182
                                        have p183 : 0 ≤ (t177 : Int) := of_decide_eq_true (by first | (with_reducible assumption) | assumption)
                                        have q183 : t177 < (l0.length : Int) := of_decide_eq_true (by first | (with_reducible assumption) | assumption)
                                        obtain ⟨ad183, e183, hx183_0⟩ := Kd.at_int HR0.out t177 p183 q183
                                        obtain rfl : ad180 = ad183 := (by injection e183)
                                        replace hx183_0 := (HB.out.cell (World.block_lt_of_cell? w _ hx183_0)).trans hx183_0
                                        replace p183 := eq_true p183
                                        replace q183 := eq_true q183
                                        go_wp2
                                        repeat (go_quiet (fail); try go_wp2)
                                        go_roundg kj7
                                        case measure => have := HK1.out; have := HJ7.out; omega
                                        case rel => exact ⟨(true), (wrap64 (x8_1 + 1)), (by first | rfl | (simp; done) | (simp [*]; done)), (by first | rfl | (simp; done) | (simp [*]; done)), H', ⟨by have := HK1.out; have := HJ7.out; omega⟩, ⟨by repeat (first | (with_reducible first | exact HB.out | apply below_alloc | apply pw_below_drewN | apply below_drew1) | exact HB.out)⟩⟩
                                    · rw [if_neg c23] at H
                                      have c23b0 : ((rd l0 x8_1) == (rd l0 t177)) = false := beq_eq_false_iff_ne.mpr c23
                                      have c23b1 : ((rd l0 x8_1) != (rd l0 t177)) = true := bne_iff_ne.mpr c23
                                      have H' := Aside0.mk H
                                      clear H
                                      have p179 : 0 ≤ (x8_1 : Int) := of_decide_eq_true (by first | (with_reducible assumption) | assumption)
                                      have q179 : x8_1 < (l1.length : Int) := of_decide_eq_true (by first | (with_reducible assumption) | assumption)
                                      obtain ⟨ad179, e179, hx179_0⟩ := Kd.at_bool HR1.out x8_1 p179 q179
                                      (try rw [← Nbq14.out] at hx179_0)
                                      cases e179
                                      replace hx179_0 := (HB.out.cell (World.block_lt_of_cell? w _ hx179_0)).trans hx179_0
                                      replace p179 := eq_true p179
                                      replace q179 := eq_true q179
                                      have p180 : 0 ≤ (x8_1 : Int) := of_decide_eq_true (by first | (with_reducible assumption) | assumption)
                                      have q180 : x8_1 < (l0.length : Int) := of_decide_eq_true (by first | (with_reducible assumption) | assumption)
                                      obtain ⟨ad180, e180, hx180_0⟩ := Kd.at_int HR0.out x8_1 p180 q180
                                      cases e180
                                      replace hx180_0 := (HB.out.cell (World.block_lt_of_cell? w _ hx180_0)).trans hx180_0
                                      replace p180 := eq_true p180
                                      replace q180 := eq_true q180
                                      have p181 : 0 ≤ (t177 : Int) := of_decide_eq_true (by first | (with_reducible assumption) | assumption)
                                      have q181 : t177 < (l0.length : Int) := of_decide_eq_true (by first | (with_reducible assumption) | assumption)
                                      obtain ⟨ad181, e181, hx181_0⟩ := Kd.at_int HR0.out t177 p181 q181
                                      obtain rfl : ad180 = ad181 := (by injection e181)
                                      replace hx181_0 := (HB.out.cell (World.block_lt_of_cell? w _ hx181_0)).trans hx181_0
                                      replace p181 := eq_true p181
                                      replace q181 := eq_true q181
                                      have p182 : 0 ≤ (x8_1 : Int) := of_decide_eq_true (by first | (with_reducible assumption) | assumption)
                                      have q182 : x8_1 < (l0.length : Int) := of_decide_eq_true (by first | (with_reducible assumption) | assumption)
                                      obtain ⟨ad182, e182, hx182_0⟩ := Kd.at_int HR0.out x8_1 p182 q182
                                      obtain rfl : ad180 = ad182 := (by injection e182)
                                      replace hx182_0 := (HB.out.cell (World.block_lt_of_cell? w _ hx182_0)).trans hx182_0
                                      replace p182 := eq_true p182
                                      replace q182 := eq_true q182
                                      have p183 : 0 ≤ (t177 : Int) := of_decide_eq_true (by first | (with_reducible assumption) | assumption)
                                      have q183 : t177 < (l0.length : Int) := of_decide_eq_true (by first | (with_reducible assumption) | assumption)
                                      obtain ⟨ad183, e183, hx183_0⟩ := Kd.at_int HR0.out t177 p183 q183
                                      obtain rfl : ad180 = ad183 := (by injection e183)
                                      replace hx183_0 := (HB.out.cell (World.block_lt_of_cell? w _ hx183_0)).trans hx183_0
                                      replace p183 := eq_true p183
                                      replace q183 := eq_true q183
                                      go_wp2
                                      repeat (go_quiet (fail); try go_wp2)
                                      go_roundg kj7
                                      case measure => have := HK1.out; have := HJ7.out; omega
                                      case rel => exact ⟨(true), (wrap64 (x8_1 + 1)), (by first | rfl | (simp; done) | (simp [*]; done)), (by first | rfl | (simp; done) | (simp [*]; done)), H', ⟨by have := HK1.out; have := HJ7.out; omega⟩, ⟨by repeat (first | (with_reducible first | exact HB.out | apply below_alloc | apply pw_below_drewN | apply below_drew1) | exact HB.out)⟩⟩
                                · rw [if_neg c21] at H
                                  exact absurd H (by simp)
                              · rw [if_neg c20] at H
                                exact absurd H (by simp)
                            · rw [if_neg c19] at H
                              exact absurd H (by simp)
                      · replace c16 := Bool.eq_false_iff.mpr c16
                        subst c16
                        have H1 : (ferrulelaw13_BlocksVictim.l0 kj7 l0 l1 t177 false true (wrap64 (x8_1 + 1))) = some r := by rw [if_neg (show ¬ (false = true) by decide)] at H; exact H
                        clear H
                        have H := H1
                        clear H1
                        have H' := Aside0.mk H
                        clear H
                        have p179 : 0 ≤ (x8_1 : Int) := of_decide_eq_true (by first | (with_reducible assumption) | assumption)
                        have q179 : x8_1 < (l1.length : Int) := of_decide_eq_true (by first | (with_reducible assumption) | assumption)
                        obtain ⟨ad179, e179, hx179_0⟩ := Kd.at_bool HR1.out x8_1 p179 q179
                        (try rw [← Nbq14.out] at hx179_0)
                        cases e179
                        replace hx179_0 := (HB.out.cell (World.block_lt_of_cell? w _ hx179_0)).trans hx179_0
                        replace p179 := eq_true p179
                        replace q179 := eq_true q179
                        go_wp2
                        repeat (go_quiet (fail); try go_wp2)
                        go_roundg kj7
                        case measure => have := HK1.out; have := HJ7.out; omega
                        case rel => exact ⟨(true), (wrap64 (x8_1 + 1)), (by first | rfl | (simp; done) | (simp [*]; done)), (by first | rfl | (simp; done) | (simp [*]; done)), H', ⟨by have := HK1.out; have := HJ7.out; omega⟩, ⟨by repeat (first | (with_reducible first | exact HB.out | apply below_alloc | apply pw_below_drewN | apply below_drew1) | exact HB.out)⟩⟩
                    · replace c15 := Bool.eq_false_iff.mpr c15
                      subst c15
                      have H1 : (ferrulelaw13_BlocksVictim.l0 kj7 l0 l1 t177 t178 true (wrap64 (x8_1 + 1))) = some r := by rw [if_neg (show ¬ (false = true) by decide)] at H; exact H
                      clear H
                      have H := H1
                      clear H1
                      have H' := Aside0.mk H
                      clear H
                      have p179 : 0 ≤ (x8_1 : Int) := of_decide_eq_true (by first | (with_reducible assumption) | assumption)
                      have q179 : x8_1 < (l1.length : Int) := of_decide_eq_true (by first | (with_reducible assumption) | assumption)
                      obtain ⟨ad179, e179, hx179_0⟩ := Kd.at_bool HR1.out x8_1 p179 q179
                      (try rw [← Nbq14.out] at hx179_0)
                      cases e179
                      replace hx179_0 := (HB.out.cell (World.block_lt_of_cell? w _ hx179_0)).trans hx179_0
                      replace p179 := eq_true p179
                      replace q179 := eq_true q179
                      go_wp2
                      repeat (go_quiet (fail); try go_wp2)
                      go_roundg kj7
                      case measure => have := HK1.out; have := HJ7.out; omega
                      case rel => exact ⟨(true), (wrap64 (x8_1 + 1)), (by first | rfl | (simp; done) | (simp [*]; done)), (by first | rfl | (simp; done) | (simp [*]; done)), H', ⟨by have := HK1.out; have := HJ7.out; omega⟩, ⟨by repeat (first | (with_reducible first | exact HB.out | apply below_alloc | apply pw_below_drewN | apply below_drew1) | exact HB.out)⟩⟩
                  · rw [if_neg c13] at H
                    exact absurd H (by simp)
                · rw [if_neg c12] at H
                  exact absurd H (by simp)
              · replace c11 := Bool.eq_false_iff.mpr c11
                subst c11
                have H1 : (if 0 ≤ x8_1 then (if x8_1 < (l1.length : Int) then (if rdOf false l1 x8_1 = true then (if t178 = true then (if t177 < 0 then (some false) else (if t177 ≥ (l0.length : Int) then (some false) else (if x8_1 < (l0.length : Int) then (if 0 ≤ t177 then (if t177 < (l0.length : Int) then (if (rd l0 x8_1) < (rd l0 t177) then (some false) else (if (rd l0 x8_1) = (rd l0 t177) then (if x8_1 < t177 then (some false) else (ferrulelaw13_BlocksVictim.l0 kj7 l0 l1 t177 t178 (rdOf false l1 x8_1) (wrap64 (x8_1 + 1)))) else (ferrulelaw13_BlocksVictim.l0 kj7 l0 l1 t177 t178 (rdOf false l1 x8_1) (wrap64 (x8_1 + 1))))) else (none)) else (none)) else (none)))) else (ferrulelaw13_BlocksVictim.l0 kj7 l0 l1 t177 t178 (rdOf false l1 x8_1) (wrap64 (x8_1 + 1)))) else (ferrulelaw13_BlocksVictim.l0 kj7 l0 l1 t177 t178 (rdOf false l1 x8_1) (wrap64 (x8_1 + 1)))) else (none)) else (none)) = some r := by rw [if_neg (show ¬ (false = true) by decide)] at H; exact H
                clear H
                have H := H1
                clear H1
                by_cases c25 : 0 ≤ x8_1
                · rw [if_pos c25] at H
                  have c25b0 : decide (0 ≤ x8_1) = true := decide_eq_true c25
                  clear c25
                  by_cases c26 : x8_1 < (l1.length : Int)
                  · rw [if_pos c26] at H
                    have c26b0 : decide (x8_1 < (l1.length : Int)) = true := decide_eq_true c26
                    clear c26
                    obtain ⟨bq27, hbq27⟩ : ∃ b_ : Bool, b_ = (rdOf false l1 x8_1) := ⟨_, rfl⟩
                    replace H : (if bq27 = true then (if t178 = true then (if t177 < 0 then (some false) else (if t177 ≥ (l0.length : Int) then (some false) else (if x8_1 < (l0.length : Int) then (if 0 ≤ t177 then (if t177 < (l0.length : Int) then (if (rd l0 x8_1) < (rd l0 t177) then (some false) else (if (rd l0 x8_1) = (rd l0 t177) then (if x8_1 < t177 then (some false) else (ferrulelaw13_BlocksVictim.l0 kj7 l0 l1 t177 t178 bq27 (wrap64 (x8_1 + 1)))) else (ferrulelaw13_BlocksVictim.l0 kj7 l0 l1 t177 t178 bq27 (wrap64 (x8_1 + 1))))) else (none)) else (none)) else (none)))) else (ferrulelaw13_BlocksVictim.l0 kj7 l0 l1 t177 t178 bq27 (wrap64 (x8_1 + 1)))) else (ferrulelaw13_BlocksVictim.l0 kj7 l0 l1 t177 t178 bq27 (wrap64 (x8_1 + 1)))) = some r := by rw [← hbq27] at H; exact H
                    have Nbq27 := Aside0.mk hbq27
                    clear hbq27
                    by_cases c28 : bq27 = true
                    · subst c28
                      have H1 : (if t178 = true then (if t177 < 0 then (some false) else (if t177 ≥ (l0.length : Int) then (some false) else (if x8_1 < (l0.length : Int) then (if 0 ≤ t177 then (if t177 < (l0.length : Int) then (if (rd l0 x8_1) < (rd l0 t177) then (some false) else (if (rd l0 x8_1) = (rd l0 t177) then (if x8_1 < t177 then (some false) else (ferrulelaw13_BlocksVictim.l0 kj7 l0 l1 t177 t178 true (wrap64 (x8_1 + 1)))) else (ferrulelaw13_BlocksVictim.l0 kj7 l0 l1 t177 t178 true (wrap64 (x8_1 + 1))))) else (none)) else (none)) else (none)))) else (ferrulelaw13_BlocksVictim.l0 kj7 l0 l1 t177 t178 true (wrap64 (x8_1 + 1)))) = some r := by rw [if_pos rfl] at H; exact H
                      clear H
                      have H := H1
                      clear H1
                      by_cases c29 : t178 = true
                      · subst c29
                        have H1 : (if t177 < 0 then (some false) else (if t177 ≥ (l0.length : Int) then (some false) else (if x8_1 < (l0.length : Int) then (if 0 ≤ t177 then (if t177 < (l0.length : Int) then (if (rd l0 x8_1) < (rd l0 t177) then (some false) else (if (rd l0 x8_1) = (rd l0 t177) then (if x8_1 < t177 then (some false) else (ferrulelaw13_BlocksVictim.l0 kj7 l0 l1 t177 true true (wrap64 (x8_1 + 1)))) else (ferrulelaw13_BlocksVictim.l0 kj7 l0 l1 t177 true true (wrap64 (x8_1 + 1))))) else (none)) else (none)) else (none)))) = some r := by rw [if_pos rfl] at H; exact H
                        clear H
                        have H := H1
                        clear H1
                        by_cases c30 : t177 < 0
                        · rw [if_pos c30] at H
                          have c30b0 : decide (t177 < 0) = true := decide_eq_true c30
                          clear c30
                          obtain rfl := Option.some.inj H
                          have p184 : 0 ≤ (x8_1 : Int) := of_decide_eq_true (by first | (with_reducible assumption) | assumption)
                          have q184 : x8_1 < (l1.length : Int) := of_decide_eq_true (by first | (with_reducible assumption) | assumption)
                          obtain ⟨ad184, e184, hx184_0⟩ := Kd.at_bool HR1.out x8_1 p184 q184
                          (try rw [← Nbq27.out] at hx184_0)
                          cases e184
                          replace hx184_0 := (HB.out.cell (World.block_lt_of_cell? w _ hx184_0)).trans hx184_0
                          replace p184 := eq_true p184
                          replace q184 := eq_true q184
                          have p185 : 0 ≤ (x8_1 : Int) := of_decide_eq_true (by first | (with_reducible assumption) | assumption)
                          have q185 : x8_1 < (l1.length : Int) := of_decide_eq_true (by first | (with_reducible assumption) | assumption)
                          obtain ⟨ad185, e185, hx185_0⟩ := Kd.at_bool HR1.out x8_1 p185 q185
                          (try rw [← Nbq27.out] at hx185_0)
                          obtain rfl : ad184 = ad185 := (by injection e185)
                          replace hx185_0 := (HB.out.cell (World.block_lt_of_cell? w _ hx185_0)).trans hx185_0
                          replace p185 := eq_true p185
                          replace q185 := eq_true q185
                          go_wp2
                          repeat (go_quiet (fail); try go_wp2)
                          go_ret
                          exact ⟨by first | rfl | (simp [errW_none, errW_some] <;> rfl) | (simp [*, errW_none, errW_some] <;> rfl), by repeat (first | (with_reducible first | exact HB.out | apply below_alloc | apply pw_below_drewN | apply below_drew1) | exact HB.out)⟩
                        · rw [if_neg c30] at H
                          have c30b0 : decide (t177 < 0) = false := decide_eq_false c30
                          clear c30
                          by_cases c31 : t177 ≥ (l0.length : Int)
                          · rw [if_pos c31] at H
                            have c31b0 : decide ((l0.length : Int) ≤ t177) = true := decide_eq_true c31
                            clear c31
                            obtain rfl := Option.some.inj H
                            have p184 : 0 ≤ (x8_1 : Int) := of_decide_eq_true (by first | (with_reducible assumption) | assumption)
                            have q184 : x8_1 < (l1.length : Int) := of_decide_eq_true (by first | (with_reducible assumption) | assumption)
                            obtain ⟨ad184, e184, hx184_0⟩ := Kd.at_bool HR1.out x8_1 p184 q184
                            (try rw [← Nbq27.out] at hx184_0)
                            cases e184
                            replace hx184_0 := (HB.out.cell (World.block_lt_of_cell? w _ hx184_0)).trans hx184_0
                            replace p184 := eq_true p184
                            replace q184 := eq_true q184
                            have p185 : 0 ≤ (x8_1 : Int) := of_decide_eq_true (by first | (with_reducible assumption) | assumption)
                            have q185 : x8_1 < (l1.length : Int) := of_decide_eq_true (by first | (with_reducible assumption) | assumption)
                            obtain ⟨ad185, e185, hx185_0⟩ := Kd.at_bool HR1.out x8_1 p185 q185
                            (try rw [← Nbq27.out] at hx185_0)
                            obtain rfl : ad184 = ad185 := (by injection e185)
                            replace hx185_0 := (HB.out.cell (World.block_lt_of_cell? w _ hx185_0)).trans hx185_0
                            replace p185 := eq_true p185
                            replace q185 := eq_true q185
                            go_wp2
                            repeat (go_quiet (fail); try go_wp2)
                            go_ret
                            exact ⟨by first | rfl | (simp [errW_none, errW_some] <;> rfl) | (simp [*, errW_none, errW_some] <;> rfl), by repeat (first | (with_reducible first | exact HB.out | apply below_alloc | apply pw_below_drewN | apply below_drew1) | exact HB.out)⟩
                          · rw [if_neg c31] at H
                            have c31b0 : decide ((l0.length : Int) ≤ t177) = false := decide_eq_false c31
                            clear c31
                            by_cases c32 : x8_1 < (l0.length : Int)
                            · rw [if_pos c32] at H
                              have c32b0 : decide (x8_1 < (l0.length : Int)) = true := decide_eq_true c32
                              clear c32
                              by_cases c33 : 0 ≤ t177
                              · rw [if_pos c33] at H
                                have c33b0 : decide (0 ≤ t177) = true := decide_eq_true c33
                                clear c33
                                by_cases c34 : t177 < (l0.length : Int)
                                · rw [if_pos c34] at H
                                  have c34b0 : decide (t177 < (l0.length : Int)) = true := decide_eq_true c34
                                  clear c34
                                  by_cases c35 : (rd l0 x8_1) < (rd l0 t177)
                                  · rw [if_pos c35] at H
                                    have c35b0 : decide ((rd l0 x8_1) < (rd l0 t177)) = true := decide_eq_true c35
                                    clear c35
                                    obtain rfl := Option.some.inj H
                                    have p184 : 0 ≤ (x8_1 : Int) := of_decide_eq_true (by first | (with_reducible assumption) | assumption)
                                    have q184 : x8_1 < (l1.length : Int) := of_decide_eq_true (by first | (with_reducible assumption) | assumption)
                                    obtain ⟨ad184, e184, hx184_0⟩ := Kd.at_bool HR1.out x8_1 p184 q184
                                    (try rw [← Nbq27.out] at hx184_0)
                                    cases e184
                                    replace hx184_0 := (HB.out.cell (World.block_lt_of_cell? w _ hx184_0)).trans hx184_0
                                    replace p184 := eq_true p184
                                    replace q184 := eq_true q184
                                    have p185 : 0 ≤ (x8_1 : Int) := of_decide_eq_true (by first | (with_reducible assumption) | assumption)
                                    have q185 : x8_1 < (l1.length : Int) := of_decide_eq_true (by first | (with_reducible assumption) | assumption)
                                    obtain ⟨ad185, e185, hx185_0⟩ := Kd.at_bool HR1.out x8_1 p185 q185
                                    (try rw [← Nbq27.out] at hx185_0)
                                    obtain rfl : ad184 = ad185 := (by injection e185)
                                    replace hx185_0 := (HB.out.cell (World.block_lt_of_cell? w _ hx185_0)).trans hx185_0
                                    replace p185 := eq_true p185
                                    replace q185 := eq_true q185
                                    have p186 : 0 ≤ (x8_1 : Int) := of_decide_eq_true (by first | (with_reducible assumption) | assumption)
                                    have q186 : x8_1 < (l0.length : Int) := of_decide_eq_true (by first | (with_reducible assumption) | assumption)
                                    obtain ⟨ad186, e186, hx186_0⟩ := Kd.at_int HR0.out x8_1 p186 q186
                                    cases e186
                                    replace hx186_0 := (HB.out.cell (World.block_lt_of_cell? w _ hx186_0)).trans hx186_0
                                    replace p186 := eq_true p186
                                    replace q186 := eq_true q186
                                    have p187 : 0 ≤ (t177 : Int) := of_decide_eq_true (by first | (with_reducible assumption) | assumption)
                                    have q187 : t177 < (l0.length : Int) := of_decide_eq_true (by first | (with_reducible assumption) | assumption)
                                    obtain ⟨ad187, e187, hx187_0⟩ := Kd.at_int HR0.out t177 p187 q187
                                    obtain rfl : ad186 = ad187 := (by injection e187)
                                    replace hx187_0 := (HB.out.cell (World.block_lt_of_cell? w _ hx187_0)).trans hx187_0
                                    replace p187 := eq_true p187
                                    replace q187 := eq_true q187
                                    go_wp2
                                    repeat (go_quiet (fail); try go_wp2)
                                    go_ret
                                    exact ⟨by first | rfl | (simp [errW_none, errW_some] <;> rfl) | (simp [*, errW_none, errW_some] <;> rfl), by repeat (first | (with_reducible first | exact HB.out | apply below_alloc | apply pw_below_drewN | apply below_drew1) | exact HB.out)⟩
                                  · rw [if_neg c35] at H
                                    have c35b0 : decide ((rd l0 x8_1) < (rd l0 t177)) = false := decide_eq_false c35
                                    clear c35
                                    by_cases c36 : (rd l0 x8_1) = (rd l0 t177)
                                    · rw [if_pos c36] at H
                                      have c36b0 : ((rd l0 x8_1) == (rd l0 t177)) = true := beq_iff_eq.mpr c36
                                      have c36b1 : ((rd l0 x8_1) != (rd l0 t177)) = false := bne_eq_false_iff_eq.mpr c36
                                      clear c36
                                      by_cases c37 : x8_1 < t177
                                      · rw [if_pos c37] at H
                                        have c37b0 : decide (x8_1 < t177) = true := decide_eq_true c37
                                        clear c37
                                        obtain rfl := Option.some.inj H
                                        have p184 : 0 ≤ (x8_1 : Int) := of_decide_eq_true (by first | (with_reducible assumption) | assumption)
                                        have q184 : x8_1 < (l1.length : Int) := of_decide_eq_true (by first | (with_reducible assumption) | assumption)
                                        obtain ⟨ad184, e184, hx184_0⟩ := Kd.at_bool HR1.out x8_1 p184 q184
                                        (try rw [← Nbq27.out] at hx184_0)
                                        cases e184
                                        replace hx184_0 := (HB.out.cell (World.block_lt_of_cell? w _ hx184_0)).trans hx184_0
                                        replace p184 := eq_true p184
                                        replace q184 := eq_true q184
                                        have p185 : 0 ≤ (x8_1 : Int) := of_decide_eq_true (by first | (with_reducible assumption) | assumption)
                                        have q185 : x8_1 < (l1.length : Int) := of_decide_eq_true (by first | (with_reducible assumption) | assumption)
                                        obtain ⟨ad185, e185, hx185_0⟩ := Kd.at_bool HR1.out x8_1 p185 q185
                                        (try rw [← Nbq27.out] at hx185_0)
                                        obtain rfl : ad184 = ad185 := (by injection e185)
                                        replace hx185_0 := (HB.out.cell (World.block_lt_of_cell? w _ hx185_0)).trans hx185_0
                                        replace p185 := eq_true p185
                                        replace q185 := eq_true q185
                                        have p186 : 0 ≤ (x8_1 : Int) := of_decide_eq_true (by first | (with_reducible assumption) | assumption)
                                        have q186 : x8_1 < (l0.length : Int) := of_decide_eq_true (by first | (with_reducible assumption) | assumption)
                                        obtain ⟨ad186, e186, hx186_0⟩ := Kd.at_int HR0.out x8_1 p186 q186
                                        cases e186
                                        replace hx186_0 := (HB.out.cell (World.block_lt_of_cell? w _ hx186_0)).trans hx186_0
                                        replace p186 := eq_true p186
                                        replace q186 := eq_true q186
                                        have p187 : 0 ≤ (t177 : Int) := of_decide_eq_true (by first | (with_reducible assumption) | assumption)
                                        have q187 : t177 < (l0.length : Int) := of_decide_eq_true (by first | (with_reducible assumption) | assumption)
                                        obtain ⟨ad187, e187, hx187_0⟩ := Kd.at_int HR0.out t177 p187 q187
                                        obtain rfl : ad186 = ad187 := (by injection e187)
                                        replace hx187_0 := (HB.out.cell (World.block_lt_of_cell? w _ hx187_0)).trans hx187_0
                                        replace p187 := eq_true p187
                                        replace q187 := eq_true q187
                                        have p188 : 0 ≤ (x8_1 : Int) := of_decide_eq_true (by first | (with_reducible assumption) | assumption)
                                        have q188 : x8_1 < (l0.length : Int) := of_decide_eq_true (by first | (with_reducible assumption) | assumption)
                                        obtain ⟨ad188, e188, hx188_0⟩ := Kd.at_int HR0.out x8_1 p188 q188
                                        obtain rfl : ad186 = ad188 := (by injection e188)
                                        replace hx188_0 := (HB.out.cell (World.block_lt_of_cell? w _ hx188_0)).trans hx188_0
                                        replace p188 := eq_true p188
                                        replace q188 := eq_true q188
                                        have p189 : 0 ≤ (t177 : Int) := of_decide_eq_true (by first | (with_reducible assumption) | assumption)
                                        have q189 : t177 < (l0.length : Int) := of_decide_eq_true (by first | (with_reducible assumption) | assumption)
                                        obtain ⟨ad189, e189, hx189_0⟩ := Kd.at_int HR0.out t177 p189 q189
                                        obtain rfl : ad186 = ad189 := (by injection e189)
                                        replace hx189_0 := (HB.out.cell (World.block_lt_of_cell? w _ hx189_0)).trans hx189_0
                                        replace p189 := eq_true p189
                                        replace q189 := eq_true q189
                                        go_wp2
                                        repeat (go_quiet (fail); try go_wp2)
                                        go_ret
                                        exact ⟨by first | rfl | (simp [errW_none, errW_some] <;> rfl) | (simp [*, errW_none, errW_some] <;> rfl), by repeat (first | (with_reducible first | exact HB.out | apply below_alloc | apply pw_below_drewN | apply below_drew1) | exact HB.out)⟩
                                      · rw [if_neg c37] at H
                                        have c37b0 : decide (x8_1 < t177) = false := decide_eq_false c37
                                        clear c37
                                        have H' := Aside0.mk H
                                        clear H
                                        have p184 : 0 ≤ (x8_1 : Int) := of_decide_eq_true (by first | (with_reducible assumption) | assumption)
                                        have q184 : x8_1 < (l1.length : Int) := of_decide_eq_true (by first | (with_reducible assumption) | assumption)
                                        obtain ⟨ad184, e184, hx184_0⟩ := Kd.at_bool HR1.out x8_1 p184 q184
                                        (try rw [← Nbq27.out] at hx184_0)
                                        cases e184
                                        replace hx184_0 := (HB.out.cell (World.block_lt_of_cell? w _ hx184_0)).trans hx184_0
                                        replace p184 := eq_true p184
                                        replace q184 := eq_true q184
                                        have p185 : 0 ≤ (x8_1 : Int) := of_decide_eq_true (by first | (with_reducible assumption) | assumption)
                                        have q185 : x8_1 < (l1.length : Int) := of_decide_eq_true (by first | (with_reducible assumption) | assumption)
                                        obtain ⟨ad185, e185, hx185_0⟩ := Kd.at_bool HR1.out x8_1 p185 q185
                                        (try rw [← Nbq27.out] at hx185_0)
                                        obtain rfl : ad184 = ad185 := (by injection e185)
                                        replace hx185_0 := (HB.out.cell (World.block_lt_of_cell? w _ hx185_0)).trans hx185_0
                                        replace p185 := eq_true p185
                                        replace q185 := eq_true q185
                                        have p186 : 0 ≤ (x8_1 : Int) := of_decide_eq_true (by first | (with_reducible assumption) | assumption)
                                        have q186 : x8_1 < (l0.length : Int) := of_decide_eq_true (by first | (with_reducible assumption) | assumption)
                                        obtain ⟨ad186, e186, hx186_0⟩ := Kd.at_int HR0.out x8_1 p186 q186
                                        cases e186
                                        replace hx186_0 := (HB.out.cell (World.block_lt_of_cell? w _ hx186_0)).trans hx186_0
                                        replace p186 := eq_true p186
                                        replace q186 := eq_true q186
                                        have p187 : 0 ≤ (t177 : Int) := of_decide_eq_true (by first | (with_reducible assumption) | assumption)
                                        have q187 : t177 < (l0.length : Int) := of_decide_eq_true (by first | (with_reducible assumption) | assumption)
                                        obtain ⟨ad187, e187, hx187_0⟩ := Kd.at_int HR0.out t177 p187 q187
                                        obtain rfl : ad186 = ad187 := (by injection e187)
                                        replace hx187_0 := (HB.out.cell (World.block_lt_of_cell? w _ hx187_0)).trans hx187_0
                                        replace p187 := eq_true p187
                                        replace q187 := eq_true q187
                                        have p188 : 0 ≤ (x8_1 : Int) := of_decide_eq_true (by first | (with_reducible assumption) | assumption)
                                        have q188 : x8_1 < (l0.length : Int) := of_decide_eq_true (by first | (with_reducible assumption) | assumption)
                                        obtain ⟨ad188, e188, hx188_0⟩ := Kd.at_int HR0.out x8_1 p188 q188
                                        obtain rfl : ad186 = ad188 := (by injection e188)
                                        replace hx188_0 := (HB.out.cell (World.block_lt_of_cell? w _ hx188_0)).trans hx188_0
                                        replace p188 := eq_true p188
                                        replace q188 := eq_true q188
                                        have p189 : 0 ≤ (t177 : Int) := of_decide_eq_true (by first | (with_reducible assumption) | assumption)
                                        have q189 : t177 < (l0.length : Int) := of_decide_eq_true (by first | (with_reducible assumption) | assumption)
                                        obtain ⟨ad189, e189, hx189_0⟩ := Kd.at_int HR0.out t177 p189 q189
                                        obtain rfl : ad186 = ad189 := (by injection e189)
                                        replace hx189_0 := (HB.out.cell (World.block_lt_of_cell? w _ hx189_0)).trans hx189_0
                                        replace p189 := eq_true p189
                                        replace q189 := eq_true q189
                                        go_wp2
                                        repeat (go_quiet (fail); try go_wp2)
                                        go_roundg kj7
                                        case measure => have := HK1.out; have := HJ7.out; omega
                                        case rel => exact ⟨(true), (wrap64 (x8_1 + 1)), (by first | rfl | (simp; done) | (simp [*]; done)), (by first | rfl | (simp; done) | (simp [*]; done)), H', ⟨by have := HK1.out; have := HJ7.out; omega⟩, ⟨by repeat (first | (with_reducible first | exact HB.out | apply below_alloc | apply pw_below_drewN | apply below_drew1) | exact HB.out)⟩⟩
                                    · rw [if_neg c36] at H
                                      have c36b0 : ((rd l0 x8_1) == (rd l0 t177)) = false := beq_eq_false_iff_ne.mpr c36
                                      have c36b1 : ((rd l0 x8_1) != (rd l0 t177)) = true := bne_iff_ne.mpr c36
                                      have H' := Aside0.mk H
                                      clear H
                                      have p184 : 0 ≤ (x8_1 : Int) := of_decide_eq_true (by first | (with_reducible assumption) | assumption)
                                      have q184 : x8_1 < (l1.length : Int) := of_decide_eq_true (by first | (with_reducible assumption) | assumption)
                                      obtain ⟨ad184, e184, hx184_0⟩ := Kd.at_bool HR1.out x8_1 p184 q184
                                      (try rw [← Nbq27.out] at hx184_0)
                                      cases e184
                                      replace hx184_0 := (HB.out.cell (World.block_lt_of_cell? w _ hx184_0)).trans hx184_0
                                      replace p184 := eq_true p184
                                      replace q184 := eq_true q184
                                      have p185 : 0 ≤ (x8_1 : Int) := of_decide_eq_true (by first | (with_reducible assumption) | assumption)
                                      have q185 : x8_1 < (l1.length : Int) := of_decide_eq_true (by first | (with_reducible assumption) | assumption)
                                      obtain ⟨ad185, e185, hx185_0⟩ := Kd.at_bool HR1.out x8_1 p185 q185
                                      (try rw [← Nbq27.out] at hx185_0)
                                      obtain rfl : ad184 = ad185 := (by injection e185)
                                      replace hx185_0 := (HB.out.cell (World.block_lt_of_cell? w _ hx185_0)).trans hx185_0
                                      replace p185 := eq_true p185
                                      replace q185 := eq_true q185
                                      have p186 : 0 ≤ (x8_1 : Int) := of_decide_eq_true (by first | (with_reducible assumption) | assumption)
                                      have q186 : x8_1 < (l0.length : Int) := of_decide_eq_true (by first | (with_reducible assumption) | assumption)
                                      obtain ⟨ad186, e186, hx186_0⟩ := Kd.at_int HR0.out x8_1 p186 q186
                                      cases e186
                                      replace hx186_0 := (HB.out.cell (World.block_lt_of_cell? w _ hx186_0)).trans hx186_0
                                      replace p186 := eq_true p186
                                      replace q186 := eq_true q186
                                      have p187 : 0 ≤ (t177 : Int) := of_decide_eq_true (by first | (with_reducible assumption) | assumption)
                                      have q187 : t177 < (l0.length : Int) := of_decide_eq_true (by first | (with_reducible assumption) | assumption)
                                      obtain ⟨ad187, e187, hx187_0⟩ := Kd.at_int HR0.out t177 p187 q187
                                      obtain rfl : ad186 = ad187 := (by injection e187)
                                      replace hx187_0 := (HB.out.cell (World.block_lt_of_cell? w _ hx187_0)).trans hx187_0
                                      replace p187 := eq_true p187
                                      replace q187 := eq_true q187
                                      have p188 : 0 ≤ (x8_1 : Int) := of_decide_eq_true (by first | (with_reducible assumption) | assumption)
                                      have q188 : x8_1 < (l0.length : Int) := of_decide_eq_true (by first | (with_reducible assumption) | assumption)
                                      obtain ⟨ad188, e188, hx188_0⟩ := Kd.at_int HR0.out x8_1 p188 q188
                                      obtain rfl : ad186 = ad188 := (by injection e188)
                                      replace hx188_0 := (HB.out.cell (World.block_lt_of_cell? w _ hx188_0)).trans hx188_0
                                      replace p188 := eq_true p188
                                      replace q188 := eq_true q188
                                      have p189 : 0 ≤ (t177 : Int) := of_decide_eq_true (by first | (with_reducible assumption) | assumption)
                                      have q189 : t177 < (l0.length : Int) := of_decide_eq_true (by first | (with_reducible assumption) | assumption)
                                      obtain ⟨ad189, e189, hx189_0⟩ := Kd.at_int HR0.out t177 p189 q189
                                      obtain rfl : ad186 = ad189 := (by injection e189)
                                      replace hx189_0 := (HB.out.cell (World.block_lt_of_cell? w _ hx189_0)).trans hx189_0
                                      replace p189 := eq_true p189
                                      replace q189 := eq_true q189
                                      go_wp2
                                      repeat (go_quiet (fail); try go_wp2)
                                      go_roundg kj7
                                      case measure => have := HK1.out; have := HJ7.out; omega
                                      case rel => exact ⟨(true), (wrap64 (x8_1 + 1)), (by first | rfl | (simp; done) | (simp [*]; done)), (by first | rfl | (simp; done) | (simp [*]; done)), H', ⟨by have := HK1.out; have := HJ7.out; omega⟩, ⟨by repeat (first | (with_reducible first | exact HB.out | apply below_alloc | apply pw_below_drewN | apply below_drew1) | exact HB.out)⟩⟩
                                · rw [if_neg c34] at H
                                  exact absurd H (by simp)
                              · rw [if_neg c33] at H
                                exact absurd H (by simp)
                            · rw [if_neg c32] at H
                              exact absurd H (by simp)
                      · replace c29 := Bool.eq_false_iff.mpr c29
                        subst c29
                        have H1 : (ferrulelaw13_BlocksVictim.l0 kj7 l0 l1 t177 false true (wrap64 (x8_1 + 1))) = some r := by rw [if_neg (show ¬ (false = true) by decide)] at H; exact H
                        clear H
                        have H := H1
                        clear H1
                        have H' := Aside0.mk H
                        clear H
                        have p184 : 0 ≤ (x8_1 : Int) := of_decide_eq_true (by first | (with_reducible assumption) | assumption)
                        have q184 : x8_1 < (l1.length : Int) := of_decide_eq_true (by first | (with_reducible assumption) | assumption)
                        obtain ⟨ad184, e184, hx184_0⟩ := Kd.at_bool HR1.out x8_1 p184 q184
                        (try rw [← Nbq27.out] at hx184_0)
                        cases e184
                        replace hx184_0 := (HB.out.cell (World.block_lt_of_cell? w _ hx184_0)).trans hx184_0
                        replace p184 := eq_true p184
                        replace q184 := eq_true q184
                        have p185 : 0 ≤ (x8_1 : Int) := of_decide_eq_true (by first | (with_reducible assumption) | assumption)
                        have q185 : x8_1 < (l1.length : Int) := of_decide_eq_true (by first | (with_reducible assumption) | assumption)
                        obtain ⟨ad185, e185, hx185_0⟩ := Kd.at_bool HR1.out x8_1 p185 q185
                        (try rw [← Nbq27.out] at hx185_0)
                        obtain rfl : ad184 = ad185 := (by injection e185)
                        replace hx185_0 := (HB.out.cell (World.block_lt_of_cell? w _ hx185_0)).trans hx185_0
                        replace p185 := eq_true p185
                        replace q185 := eq_true q185
                        go_wp2
                        repeat (go_quiet (fail); try go_wp2)
                        go_roundg kj7
                        case measure => have := HK1.out; have := HJ7.out; omega
                        case rel => exact ⟨(true), (wrap64 (x8_1 + 1)), (by first | rfl | (simp; done) | (simp [*]; done)), (by first | rfl | (simp; done) | (simp [*]; done)), H', ⟨by have := HK1.out; have := HJ7.out; omega⟩, ⟨by repeat (first | (with_reducible first | exact HB.out | apply below_alloc | apply pw_below_drewN | apply below_drew1) | exact HB.out)⟩⟩
                    · replace c28 := Bool.eq_false_iff.mpr c28
                      subst c28
                      have H1 : (ferrulelaw13_BlocksVictim.l0 kj7 l0 l1 t177 t178 false (wrap64 (x8_1 + 1))) = some r := by rw [if_neg (show ¬ (false = true) by decide)] at H; exact H
                      clear H
                      have H := H1
                      clear H1
                      have H' := Aside0.mk H
                      clear H
                      have p184 : 0 ≤ (x8_1 : Int) := of_decide_eq_true (by first | (with_reducible assumption) | assumption)
                      have q184 : x8_1 < (l1.length : Int) := of_decide_eq_true (by first | (with_reducible assumption) | assumption)
                      obtain ⟨ad184, e184, hx184_0⟩ := Kd.at_bool HR1.out x8_1 p184 q184
                      (try rw [← Nbq27.out] at hx184_0)
                      cases e184
                      replace hx184_0 := (HB.out.cell (World.block_lt_of_cell? w _ hx184_0)).trans hx184_0
                      replace p184 := eq_true p184
                      replace q184 := eq_true q184
                      have p185 : 0 ≤ (x8_1 : Int) := of_decide_eq_true (by first | (with_reducible assumption) | assumption)
                      have q185 : x8_1 < (l1.length : Int) := of_decide_eq_true (by first | (with_reducible assumption) | assumption)
                      obtain ⟨ad185, e185, hx185_0⟩ := Kd.at_bool HR1.out x8_1 p185 q185
                      (try rw [← Nbq27.out] at hx185_0)
                      obtain rfl : ad184 = ad185 := (by injection e185)
                      replace hx185_0 := (HB.out.cell (World.block_lt_of_cell? w _ hx185_0)).trans hx185_0
                      replace p185 := eq_true p185
                      replace q185 := eq_true q185
                      go_wp2
                      repeat (go_quiet (fail); try go_wp2)
                      go_roundg kj7
                      case measure => have := HK1.out; have := HJ7.out; omega
                      case rel => exact ⟨(false), (wrap64 (x8_1 + 1)), (by first | rfl | (simp; done) | (simp [*]; done)), (by first | rfl | (simp; done) | (simp [*]; done)), H', ⟨by have := HK1.out; have := HJ7.out; omega⟩, ⟨by repeat (first | (with_reducible first | exact HB.out | apply below_alloc | apply pw_below_drewN | apply below_drew1) | exact HB.out)⟩⟩
                  · rw [if_neg c26] at H
                    exact absurd H (by simp)
                · rw [if_neg c25] at H
                  exact absurd H (by simp)
            · replace c10 := Bool.eq_false_iff.mpr c10
              subst c10
              have H1 : (if (t178 == x7_1) = true then (if t178 = true then (if t177 < (l1.length : Int) then (if 0 ≤ t177 then (if rdOf false l1 t177 = true then (some true) else (some false)) else (none)) else (some false)) else (some (t177 == 0))) else (some false)) = some r := by rw [if_neg (show ¬ (false = true) by decide)] at H; exact H
              clear H
              have H := H1
              clear H1
              by_cases c38 : (t178 == x7_1) = true
              · rw [if_pos c38] at H
                have c38b0 : (t178 == x7_1) = true := c38
                (try (have c38b1 : decide (t178 = x7_1) = true := by simpa using c38))
                (try (have c38b2 : (t178 == x7_1) = true := by simpa using c38))
                clear c38
                by_cases c39 : t178 = true
                · subst c39
                  have H1 : (if t177 < (l1.length : Int) then (if 0 ≤ t177 then (if rdOf false l1 t177 = true then (some true) else (some false)) else (none)) else (some false)) = some r := by rw [if_pos rfl] at H; exact H
                  clear H
                  have H := H1
                  clear H1
                  by_cases c40 : t177 < (l1.length : Int)
                  · rw [if_pos c40] at H
                    have c40b0 : decide (t177 < (l1.length : Int)) = true := decide_eq_true c40
                    clear c40
                    by_cases c41 : 0 ≤ t177
                    · rw [if_pos c41] at H
                      have c41b0 : decide (0 ≤ t177) = true := decide_eq_true c41
                      clear c41
                      obtain ⟨bq42, hbq42⟩ : ∃ b_ : Bool, b_ = (rdOf false l1 t177) := ⟨_, rfl⟩
                      replace H : (if bq42 = true then (some true) else (some false)) = some r := by rw [← hbq42] at H; exact H
                      have Nbq42 := Aside0.mk hbq42
                      clear hbq42
                      by_cases c43 : bq42 = true
                      · subst c43
                        have H1 : (some true) = some r := by rw [if_pos rfl] at H; exact H
                        clear H
                        have H := H1
                        clear H1
                        obtain rfl := Option.some.inj H
                        have p190 : 0 ≤ (t177 : Int) := of_decide_eq_true (by first | (with_reducible assumption) | assumption)
                        have q190 : t177 < (l1.length : Int) := of_decide_eq_true (by first | (with_reducible assumption) | assumption)
                        obtain ⟨ad190, e190, hx190_0⟩ := Kd.at_bool HR1.out t177 p190 q190
                        (try rw [← Nbq42.out] at hx190_0)
                        cases e190
                        replace hx190_0 := (HB.out.cell (World.block_lt_of_cell? w _ hx190_0)).trans hx190_0
                        replace p190 := eq_true p190
                        replace q190 := eq_true q190
                        go_wp2
                        repeat (go_quiet (fail); try go_wp2)
                        go_ret
                        exact ⟨by first | rfl | (simp [errW_none, errW_some] <;> rfl) | (simp [*, errW_none, errW_some] <;> rfl), by repeat (first | (with_reducible first | exact HB.out | apply below_alloc | apply pw_below_drewN | apply below_drew1) | exact HB.out)⟩
                      · replace c43 := Bool.eq_false_iff.mpr c43
                        subst c43
                        have H1 : (some false) = some r := by rw [if_neg (show ¬ (false = true) by decide)] at H; exact H
                        clear H
                        have H := H1
                        clear H1
                        obtain rfl := Option.some.inj H
                        have p190 : 0 ≤ (t177 : Int) := of_decide_eq_true (by first | (with_reducible assumption) | assumption)
                        have q190 : t177 < (l1.length : Int) := of_decide_eq_true (by first | (with_reducible assumption) | assumption)
                        obtain ⟨ad190, e190, hx190_0⟩ := Kd.at_bool HR1.out t177 p190 q190
                        (try rw [← Nbq42.out] at hx190_0)
                        cases e190
                        replace hx190_0 := (HB.out.cell (World.block_lt_of_cell? w _ hx190_0)).trans hx190_0
                        replace p190 := eq_true p190
                        replace q190 := eq_true q190
                        go_wp2
                        repeat (go_quiet (fail); try go_wp2)
                        go_ret
                        exact ⟨by first | rfl | (simp [errW_none, errW_some] <;> rfl) | (simp [*, errW_none, errW_some] <;> rfl), by repeat (first | (with_reducible first | exact HB.out | apply below_alloc | apply pw_below_drewN | apply below_drew1) | exact HB.out)⟩
                    · rw [if_neg c41] at H
                      exact absurd H (by simp)
                  · rw [if_neg c40] at H
                    have c40b0 : decide (t177 < (l1.length : Int)) = false := decide_eq_false c40
                    clear c40
                    obtain rfl := Option.some.inj H
                    go_wp2
                    repeat (go_quiet (fail); try go_wp2)
                    go_ret
                    exact ⟨by first | rfl | (simp [errW_none, errW_some] <;> rfl) | (simp [*, errW_none, errW_some] <;> rfl), by repeat (first | (with_reducible first | exact HB.out | apply below_alloc | apply pw_below_drewN | apply below_drew1) | exact HB.out)⟩
                · replace c39 := Bool.eq_false_iff.mpr c39
                  subst c39
                  have H1 : (some (t177 == 0)) = some r := by rw [if_neg (show ¬ (false = true) by decide)] at H; exact H
                  clear H
                  have H := H1
                  clear H1
                  obtain rfl := Option.some.inj H
                  go_wp2
                  repeat (go_quiet (fail); try go_wp2)
                  go_ret
                  exact ⟨by first | rfl | (simp [errW_none, errW_some] <;> rfl) | (simp [*, errW_none, errW_some] <;> rfl), by repeat (first | (with_reducible first | exact HB.out | apply below_alloc | apply pw_below_drewN | apply below_drew1) | exact HB.out)⟩
              · rw [if_neg c38] at H
                have c38b0 : (t178 == x7_1) = false := by simpa using c38
                (try (have c38b1 : decide (t178 = x7_1) = false := by simpa using c38))
                (try (have c38b2 : (t178 == x7_1) = false := by simpa using c38))
                (try (have c38b3 : ¬ (t178 = x7_1) := by simpa using c38))
                clear c38
                obtain rfl := Option.some.inj H
                go_wp2
                repeat (go_quiet (fail); try go_wp2)
                go_ret
                exact ⟨by first | rfl | (simp [errW_none, errW_some] <;> rfl) | (simp [*, errW_none, errW_some] <;> rfl), by repeat (first | (with_reducible first | exact HB.out | apply below_alloc | apply pw_below_drewN | apply below_drew1) | exact HB.out)⟩
  · replace c4 := Bool.eq_false_iff.mpr c4
    subst c4
    have H1 : (some false) = some r := by rw [if_neg (show ¬ (false = true) by decide)] at H; exact H
    clear H
    have H := H1
    clear H1
    obtain rfl := Option.some.inj H
    go_enter Try.func5, Try.ntmps5
    go_wp2_with (first | (go_at_call 8; (with_reducible refine (ferrulelaw13_awake.calls k  false _ A3.out).mono ?_); rintro e w44 ⟨rfl, hb⟩; have n0_ := Aside0.mk (below_step (by repeat (first | (with_reducible first | exact HB.out | apply below_alloc | apply pw_below_drewN | apply below_drew1) | exact HB.out)) hb); clear HB; have HB := n0_; clear n0_; (try clear hb); (try clear hb2); (try clear hk); (try clear hi)))
    repeat (go_quiet (first | (go_at_call 8; (with_reducible refine (ferrulelaw13_awake.calls k  false _ A3.out).mono ?_); rintro e w44 ⟨rfl, hb⟩; have n0_ := Aside0.mk (below_step (by repeat (first | (with_reducible first | exact HB.out | apply below_alloc | apply pw_below_drewN | apply below_drew1) | exact HB.out)) hb); clear HB; have HB := n0_; clear n0_; (try clear hb); (try clear hb2); (try clear hk); (try clear hi))); try go_wp2_with (first | (go_at_call 8; (with_reducible refine (ferrulelaw13_awake.calls k  false _ A3.out).mono ?_); rintro e w44 ⟨rfl, hb⟩; have n0_ := Aside0.mk (below_step (by repeat (first | (with_reducible first | exact HB.out | apply below_alloc | apply pw_below_drewN | apply below_drew1) | exact HB.out)) hb); clear HB; have HB := n0_; clear n0_; (try clear hb); (try clear hb2); (try clear hk); (try clear hi))))
    go_ret
    exact ⟨by first | rfl | (simp [errW_none, errW_some] <;> rfl) | (simp [*, errW_none, errW_some] <;> rfl), by repeat (first | (with_reducible first | exact HB.out | apply below_alloc | apply pw_below_drewN | apply below_drew1) | exact HB.out)⟩

/-- THE ONE PURE STATEMENT of ferrulelaw13_BlocksVictim: yours. -/
def ferrulelaw13_BlocksVictim.Pure : Prop := ∀ (l0 : List Int) (l1 : List Bool), l0.length ≤ maxLen → l0.length * 8 ≤ 140737488351232 → (∀ x ∈ l0, (Lit.int .i64 x).wf = true) → l1.length ≤ maxLen → l1.length * 1 ≤ 140737488351232 → ∃ k, ferrulelaw13_BlocksVictim.f k l0 l1 = some true
theorem ferrulelaw13_BlocksVictim.walk (P : ferrulelaw13_BlocksVictim.Pure) (a0 : Option Addr) (len0 cap0 : Nat) (z0 : List Int) (a1 : Option Addr) (cap1 : Nat) (l1 : List Bool) (w : World) (w0 : (a0 = none ∧ len0 = 0 ∧ cap0 = 0 ∧ z0 = []) ∨ ∃ x, a0 = some x ∧ len0 ≤ cap0 ∧ cap0 ≤ maxLen ∧ z0.length = cap0 ∧ (∀ i, i < z0.length → w.cell? (x.add i) = some (.int .i64 (z0.getD i 0))) ∧ ∀ n ∈ z0, (Lit.int .i64 n).wf = true) (y0 : len0 * 8 ≤ 140737488351232) (hr1 : Kd.C Kd.bool w a1 l1.length l1) (hc1 : l1.length ≤ cap1) (hm1 : l1.length ≤ maxLen) (y1 : l1.length * 1 ≤ 140737488351232) :
    Calls Try.prog 5 #[.slice a0 len0 cap0, .slice a1 l1.length cap1] w fun e w' => e = .returned (.bool true) ∧ Below w.heap.size w w' := by
  obtain ⟨l0, rfl, hr0, hm0, hw0, hc0⟩ := ReadsInt.ofRowC w0
  obtain ⟨k, h⟩ := P l0 l1 hm0 y0 hw0 hm1 y1
  refine (ferrulelaw13_BlocksVictim.calls k _ _ l0 _ _ l1 true w (Kd.C_of_reads (d := (0 : Int)) (h1 := fun _ => rfl) hr0) hc0 hr1 hc1 h).mono ?_
  rintro e w' ⟨rfl, hd⟩
  exact ⟨rfl, hd⟩

end Go.Proofs.Ytnogokemjcfaoaa.PBlocksVictim
