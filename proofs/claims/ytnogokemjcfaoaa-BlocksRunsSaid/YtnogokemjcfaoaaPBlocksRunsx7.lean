-- By a program of this session (NOTES.md). Lean checks it.
import Derived.Test.YtnogokemjcfaoaaPBlocksRunsx0
namespace Go.Proofs.Ytnogokemjcfaoaa.PBlocksRuns
open Go.RowKit Go.Proofs.YtnogokemjcfaoaaW.PrintWords Go.Proofs.YtnogokemjcfaoaaW.PrintLast Go.Proofs.YtnogokemjcfaoaaW.PrintMore
attribute [local go_sem] max2_int min2_int max_two min_two max_three min_three max_four min_four   -- for this text's walks alone
set_option linter.unusedVariables false
set_option linter.unusedSimpArgs false

/-! ### ferruleref13_Valid: function 23 -/
mutual
def ferruleref13_Valid.l0 : Nat → List (S35) → Int → List Int → Int → Option (List Int)
  | 0, _, _, _, _ => none
  | k + 1, x0, x2, x7, x8 => if x8 < (x0.length : Int) then (ferruleref13_Valid.l1 k x0 x2 x7 x8 0) else (some x7)
def ferruleref13_Valid.l1 : Nat → List (S35) → Int → List Int → Int → Int → Option (List Int)
  | 0, _, _, _, _, _ => none
  | k + 1, x0, x2, x7, x8, x9 => if 0 ≤ x8 then (if x8 < (x0.length : Int) then (if x9 < ((rd_T35 x0 x8).f1) then (if x2 = 0 then (none) else (if 0 ≤ (wrap64 (Int.tdiv (wrap64 (((rd_T35 x0 x8).f2) + x9)) x2)) then (if (wrap64 (Int.tdiv (wrap64 (((rd_T35 x0 x8).f2) + x9)) x2)) < (x7.length : Int) then (ferruleref13_Valid.l1 k x0 x2 (x7.set ((wrap64 (Int.tdiv (wrap64 (((rd_T35 x0 x8).f2) + x9)) x2)) : Int).toNat (wrap64 ((rd x7 (wrap64 (Int.tdiv (wrap64 (((rd_T35 x0 x8).f2) + x9)) x2))) + 1))) x8 (wrap64 (x9 + 1))) else (none)) else (none))) else (ferruleref13_Valid.l0 k x0 x2 x7 (wrap64 (x8 + 1)))) else (none)) else (none)
end
def ferruleref13_Valid.f (k : Nat) (l0 : List (S35)) (a1 : Int) (a2 : Int) : Option (List Int) := if 0 ≤ a1 then (if (a1 : Int).toNat ≤ 35184372088832 then (ferruleref13_Valid.l0 k l0 a2 (List.replicate (a1 : Int).toNat 0) 0) else (none)) else (none)
theorem ferruleref13_Valid.mono_l : ∀ k, (∀ y0 y1 y2 y3, LeO (ferruleref13_Valid.l0 k y0 y1 y2 y3) (ferruleref13_Valid.l0 (k + 1) y0 y1 y2 y3)) ∧ (∀ y0 y1 y2 y3 y4, LeO (ferruleref13_Valid.l1 k y0 y1 y2 y3 y4) (ferruleref13_Valid.l1 (k + 1) y0 y1 y2 y3 y4))
  | 0 => ⟨fun _ _ _ _ r h => by simp [ferruleref13_Valid.l0] at h, fun _ _ _ _ _ r h => by simp [ferruleref13_Valid.l1] at h⟩
  | k + 1 => by
    obtain ⟨ih0, ih1⟩ := ferruleref13_Valid.mono_l k
    refine ⟨?_, ?_⟩
    · intro y0 y1 y2 y3
      unfold ferruleref13_Valid.l0
      repeat' first
      | (with_reducible exact ih0 _ _ _ _)
      | (with_reducible exact ih1 _ _ _ _ _)
      | (with_reducible exact LeO.refl _)
      | (with_reducible exact LeO.none _)
      | (with_reducible refine LeO.ite ?_ ?_)
      | (with_reducible refine LeO.bind ?_ (fun _ => ?_))
      | exact ih0 _ _ _ _
      | exact ih1 _ _ _ _ _
      | exact LeO.none _
      | refine LeO.ite ?_ ?_
      | refine LeO.bind ?_ (fun _ => ?_)
    · intro y0 y1 y2 y3 y4
      unfold ferruleref13_Valid.l1
      repeat' first
      | (with_reducible exact ih0 _ _ _ _)
      | (with_reducible exact ih1 _ _ _ _ _)
      | (with_reducible exact LeO.refl _)
      | (with_reducible exact LeO.none _)
      | (with_reducible refine LeO.ite ?_ ?_)
      | (with_reducible refine LeO.bind ?_ (fun _ => ?_))
      | exact ih0 _ _ _ _
      | exact ih1 _ _ _ _ _
      | exact LeO.none _
      | refine LeO.ite ?_ ?_
      | refine LeO.bind ?_ (fun _ => ?_)
theorem ferruleref13_Valid.mono : ∀ a0 a1 a2 k, LeO (ferruleref13_Valid.f k a0 a1 a2) (ferruleref13_Valid.f (k + 1) a0 a1 a2) := by
  intro a0 a1 a2 k
  obtain ⟨ih0, ih1⟩ := ferruleref13_Valid.mono_l k
  unfold ferruleref13_Valid.f
  repeat' first
      | (with_reducible exact ih0 _ _ _ _)
      | (with_reducible exact ih1 _ _ _ _ _)
      | (with_reducible exact LeO.refl _)
      | (with_reducible exact LeO.none _)
      | (with_reducible refine LeO.ite ?_ ?_)
      | (with_reducible refine LeO.bind ?_ (fun _ => ?_))
      | exact ih0 _ _ _ _
      | exact ih1 _ _ _ _ _
      | exact LeO.none _
      | refine LeO.ite ?_ ?_
      | refine LeO.bind ?_ (fun _ => ?_)
set_option maxHeartbeats 8000000 in
set_option maxRecDepth 100000 in
theorem ferruleref13_Valid.calls (k : Nat) (A0 : Option Addr) (c0 : Nat) (l0 : List (S35)) (a1 : Int) (a2 : Int) (r : List Int) (w : World) (hr0 : Kd.C k35 w A0 l0.length l0) (hc0 : l0.length ≤ c0) (h : ferruleref13_Valid.f k l0 a1 a2 = some r) :
    Calls Try.prog 23 #[.slice A0 l0.length c0, .int .i64 a1, .int .i64 a2] w fun e w' => ∃ v0_ : Value, e = .returned (v0_) ∧ Kd.R (Kd.int .i64) 3 w' w.heap.size (fun _ => True) v0_ r ∧ Below w.heap.size w w' := by
  have HR0 := Aside0.mk hr0
  have HC0 := Aside0.mk hc0
  clear hr0 hc0
  have HB := Aside0.mk (Below.refl w.heap.size w)
  have H : (if 0 ≤ a1 then (if (a1 : Int).toNat ≤ 35184372088832 then (ferruleref13_Valid.l0 k l0 a2 (List.replicate (a1 : Int).toNat 0) 0) else (none)) else (none)) = some r := h
  clear h
  by_cases c4 : 0 ≤ a1
  · rw [if_pos c4] at H
    have c4b0 := eq_true c4
    have c4b1 : decide (0 ≤ a1) = true := decide_eq_true c4
    clear c4
    by_cases c5 : (a1 : Int).toNat ≤ 35184372088832
    · rw [if_pos c5] at H
      have c5b0 := eq_true c5
      have c5b1 : decide ((a1 : Int).toNat ≤ 35184372088832) = true := decide_eq_true c5
      clear c5
      obtain ⟨y196, hy196⟩ : ∃ y_ : List Int, y_ = (List.replicate (a1 : Int).toNat 0) := ⟨_, rfl⟩
      replace H : (ferruleref13_Valid.l0 k l0 a2 y196 0) = some r := by first | (rw [hy196]; with_reducible exact H) | (have H2_ := (Option.bind_some _ _).symm.trans H; rw [hy196]; with_reducible exact H2_) | (have H2_ := (Option.bind_some _ _).symm.trans H; with_reducible exact H2_) | with_reducible exact H | (rw [hy196]; exact H) | exact H
      have Ny196 := Aside0.mk hy196
      clear hy196
      have H' := Aside0.mk H
      clear H
      go_enter Try.func23, Try.ntmps23
      go_wp2_with (first | ((with_reducible refine gate_dst (N := 11) rfl ?_); refine Kd.R_make (Kd.int .i64) _ 3 rfl (N := 11) rfl 23 _ _ rfl a1 rfl rfl Try.underlying23 (.int .i64 0) 8 info3 rfl (by decide) (by omega) 0 (ok := fun _ => True) (okp := fun _ => True) rfl (fun _ hk => hk) trivial (of_decide_eq_true (by first | (with_reducible assumption) | assumption)) (Nat.le_trans (Nat.mul_le_mul_right _ (of_decide_eq_true (by first | (with_reducible assumption) | assumption) : a1.toNat ≤ 35184372088832)) (by omega)) (Below.refl _ _) (Nat.le_refl _) ?_; intro v197 w6 ho7 hb hg_ hnew_; clear hg_ hnew_; (first | rw [← Ny196.out] at ho7 | (simp only [Int.reduceToNat] at ho7; rw [← Ny196.out] at ho7)); have n0_ := Aside0.mk (Kd.R_lower ho7 (below_size (by repeat (first | (with_reducible first | exact HB.out | apply below_alloc | apply pw_below_drewN | apply below_drew1) | exact HB.out)))); have n1_ := Aside0.mk (below_step (by repeat (first | (with_reducible first | exact HB.out | apply below_alloc | apply pw_below_drewN | apply below_drew1) | exact HB.out)) hb); clear HB; have HO198 := n0_; have HB := n1_; clear n0_ n1_; clear hb ho7))
      go_loopg [8] k (fun kq v8 w' => ∃ (x7_1 : List Int) (x8_1 : Int), v8 = .int .i64 x8_1 ∧ Aside0 (ferruleref13_Valid.l0 kq l0 a2 x7_1 x8_1 = some r) ∧ Aside0 (kq ≤ k) ∧ Aside0 (Kd.R (Kd.int .i64) 3 w' w.heap.size (fun _ => True) v197 x7_1) ∧ Aside0 (Below w.heap.size w w'))
      case atStart => exact ⟨(y196), (0), (by first | rfl | (simp; done) | (simp [*]; done)), H', ⟨Nat.le_refl _⟩, ⟨by (with_reducible repeat (first | apply Kd.R_alloc | apply Kd.R_drewN | apply Kd.R_drew)); exact HO198.out⟩, ⟨by repeat (first | (with_reducible first | exact HB.out | apply below_alloc | apply pw_below_drewN | apply below_drew1) | exact HB.out)⟩⟩
      case round =>
        clear H'
        try clear c2
        try clear p2
        try clear c4
        try clear c4b0
        try clear c4b1
        try clear c5
        try clear c5b0
        try clear c5b1
        obtain ⟨x7_1, x8_1, rfl, HA, HK1, HO_7, HB⟩ := hrel
        cases gk with
        | zero => exact absurd HA.out (by simp [ferruleref13_Valid.l0])
        | succ k1 =>
          have H := HA.out
          clear HA
          simp only [ferruleref13_Valid.l0] at H
          by_cases c8 : x8_1 < (l0.length : Int)
          · rw [if_pos c8] at H
            have c8b0 : decide (x8_1 < (l0.length : Int)) = true := decide_eq_true c8
            clear c8
            have H' := Aside0.mk H
            clear H
            go_wp2
            go_loopg [9] k1 (fun kq v9 w' => ∃ (x7_2 : List Int) (x9_2 : Int), v9 = .int .i64 x9_2 ∧ Aside0 (ferruleref13_Valid.l1 kq l0 a2 x7_2 x8_1 x9_2 = some r) ∧ Aside0 (kq ≤ k1) ∧ Aside0 (Kd.R (Kd.int .i64) 3 w' w.heap.size (fun _ => True) v197 x7_2) ∧ Aside0 (Below w.heap.size w w'))
            case atStart => exact ⟨(x7_1), (0), (by first | rfl | (simp; done) | (simp [*]; done)), H', ⟨Nat.le_refl _⟩, ⟨by (with_reducible repeat (first | apply Kd.R_alloc | apply Kd.R_drewN | apply Kd.R_drew)); exact HO_7.out⟩, ⟨by repeat (first | (with_reducible first | exact HB.out | apply below_alloc | apply pw_below_drewN | apply below_drew1) | exact HB.out)⟩⟩
            case round =>
              clear H'
              try clear c2
              try clear p2
              try clear c4
              try clear c4b0
              try clear c4b1
              try clear c5
              try clear c5b0
              try clear c5b1
              try clear c8
              try clear c8b0
              try clear p2
              obtain ⟨x7_2, x9_2, rfl, HA, HK2, HO_7, HB⟩ := hrel
              cases gk with
              | zero => exact absurd HA.out (by simp [ferruleref13_Valid.l1])
              | succ k2 =>
                have H := HA.out
                clear HA
                simp only [ferruleref13_Valid.l1] at H
                by_cases c9 : 0 ≤ x8_1
                · rw [if_pos c9] at H
                  have c9b0 : decide (0 ≤ x8_1) = true := decide_eq_true c9
                  clear c9
                  by_cases c10 : x8_1 < (l0.length : Int)
                  · rw [if_pos c10] at H
                    have c10b0 : decide (x8_1 < (l0.length : Int)) = true := decide_eq_true c10
                    clear c10
                    by_cases c11 : x9_2 < ((rd_T35 l0 x8_1).f1)
                    · rw [if_pos c11] at H
                      have c11b0 : decide (x9_2 < ((rd_T35 l0 x8_1).f1)) = true := decide_eq_true c11
                      clear c11
                      by_cases c12 : a2 = 0
                      · rw [if_pos c12] at H
                        exact absurd H (by simp)
                      · rw [if_neg c12] at H
                        have c12b0 : (a2 == 0) = false := beq_eq_false_iff_ne.mpr c12
                        have c12b1 : (a2 != 0) = true := bne_iff_ne.mpr c12
                        obtain ⟨ji13, hji13⟩ : ∃ j_ : Int, (wrap64 (Int.tdiv (wrap64 (((rd_T35 l0 x8_1).f2) + x9_2)) a2)) = j_ := ⟨_, rfl⟩
                        replace H : (if 0 ≤ (ji13) then (if (ji13) < (x7_2.length : Int) then (ferruleref13_Valid.l1 k2 l0 a2 (x7_2.set ((ji13) : Int).toNat (wrap64 ((rd x7_2 (ji13)) + 1))) x8_1 (wrap64 (x9_2 + 1))) else (none)) else (none)) = some r := by first | (rw [hji13] at H; exact H) | (simp only [hji13] at H ⊢; exact H)
                        have hji13w : (IntKind.i64.wrap (Int.tdiv (wrap64 (((rd_T35 l0 x8_1).f2) + x9_2)) a2)) = ji13 := (i64_w _).trans hji13
                        by_cases c14 : 0 ≤ (ji13)
                        · rw [if_pos c14] at H
                          have c14b0 : decide (0 ≤ (ji13)) = true := decide_eq_true c14
                          clear c14
                          by_cases c15 : (ji13) < (x7_2.length : Int)
                          · rw [if_pos c15] at H
                            have c15b0 : decide ((ji13) < (x7_2.length : Int)) = true := decide_eq_true c15
                            clear c15
                            obtain ⟨y202, hy202⟩ : ∃ y_ : List Int, y_ = (x7_2.set ((ji13) : Int).toNat (wrap64 ((rd x7_2 (ji13)) + 1))) := ⟨_, rfl⟩
                            replace H : (ferruleref13_Valid.l1 k2 l0 a2 y202 x8_1 (wrap64 (x9_2 + 1))) = some r := by first | (rw [hy202]; with_reducible exact H) | (have H2_ := (Option.bind_some _ _).symm.trans H; rw [hy202]; with_reducible exact H2_) | (have H2_ := (Option.bind_some _ _).symm.trans H; with_reducible exact H2_) | with_reducible exact H | (rw [hy202]; exact H) | exact H
                            have Ny202 := Aside0.mk hy202
                            clear hy202
                            have H' := Aside0.mk H
                            clear H
                            have p199 : 0 ≤ (x8_1 : Int) := of_decide_eq_true (by first | (with_reducible assumption) | assumption)
                            have q199 : x8_1 < (l0.length : Int) := of_decide_eq_true (by first | (with_reducible assumption) | assumption)
                            obtain ⟨ad199, e199, hx199_0, hx199_1, hx199_2⟩ := at_T35 HR0.out x8_1 p199 q199
                            cases e199
                            replace hx199_0 := (HB.out.cell (World.block_lt_of_cell? w _ hx199_0)).trans hx199_0
                            replace hx199_1 := (HB.out.cell (World.block_lt_of_cell? w _ hx199_1)).trans hx199_1
                            replace hx199_2 := (HB.out.cell (World.block_lt_of_cell? w _ hx199_2)).trans hx199_2
                            replace p199 := eq_true p199
                            replace q199 := eq_true q199
                            have p200 : 0 ≤ (x8_1 : Int) := of_decide_eq_true (by first | (with_reducible assumption) | assumption)
                            have q200 : x8_1 < (l0.length : Int) := of_decide_eq_true (by first | (with_reducible assumption) | assumption)
                            obtain ⟨ad200, e200, hx200_0, hx200_1, hx200_2⟩ := at_T35 HR0.out x8_1 p200 q200
                            obtain rfl : ad199 = ad200 := (by injection e200)
                            replace hx200_0 := (HB.out.cell (World.block_lt_of_cell? w _ hx200_0)).trans hx200_0
                            replace hx200_1 := (HB.out.cell (World.block_lt_of_cell? w _ hx200_1)).trans hx200_1
                            replace hx200_2 := (HB.out.cell (World.block_lt_of_cell? w _ hx200_2)).trans hx200_2
                            replace p200 := eq_true p200
                            replace q200 := eq_true q200
                            obtain ⟨Ao17, co17, eo17⟩ := Kd.R_slice HO_7.out
                            subst eo17
                            have p201 : 0 ≤ ((ji13) : Int) := of_decide_eq_true (by first | (with_reducible assumption) | assumption)
                            have q201 : (ji13) < (x7_2.length : Int) := of_decide_eq_true (by first | (with_reducible assumption) | assumption)
                            obtain ⟨ad201, e201, hx201_0⟩ := Kd.at_int (Kd.R_reads' HO_7.out).2.2 (ji13) p201 q201
                            cases e201
                            replace p201 := eq_true p201
                            replace q201 := eq_true q201
                            have p16 : 0 ≤ ((ji13) : Int) := of_decide_eq_true (by first | (with_reducible assumption) | assumption)
                            have q16 : ((ji13) : Int) < ((x7_2.length : Int) : Int) := of_decide_eq_true (by first | (with_reducible assumption) | assumption)
                            obtain ⟨go16, co16, eo16, gb16, gl16, cl16, HG16⟩ := Kd.R_form HO_7.out (by omega)
                            (first | cases eo16 | (injection eo16 with ea_ en_ ec_; (first | subst ea_ | (injection ea_ with ea_; subst ea_)); subst ec_; clear en_))
                            have GB16 := Aside0.mk gb16
                            have GG16 := Aside0.mk HG16
                            clear gb16 gl16 HG16
                            (first | simp only [add_plain] at hx201_0 | skip)
                            obtain ⟨hx16_0, hf16_0⟩ := Kd.R_celln 0 HO_7.out ((ji13) : Int) p16 q16
                            replace p16 := eq_true p16
                            replace q16 := eq_true q16
                            have HP18 := Kd.R_putg HO_7.out ((ji13) : Int) (wrap64 ((rd x7_2 (ji13)) + 1))
                            go_wp2_with (first | ((with_reducible refine gate_store (t := 3) (p := 40) rfl ?_); refine store_event (t := 3) (p := 40) (v := ?vo_w19) (w1 := (wr.setCell ⟨go16, ((ji13) : Int).toNat, none⟩ (.int .i64 (wrap64 ((rd x7_2 (ji13)) + 1))))) ?hg ?ho ?hn ?hr ?_; (case ho => rfl); (case hg => rfl); (case hn => rfl); (case hr => first | (go_simp; done) | (go_simp; rfl)); intro w19 hw; have hg : wr.grownBy w19 (some go16) := (by rw [hw]; exact HP18.2); have hp_ : Kd.R (Kd.int .i64) 3 w19 w.heap.size (fun _ => True) (.slice (some ⟨go16, 0, none⟩) x7_2.length co17) y202 := (by rw [hw, Ny202.out]; exact HP18.1); clear HP18; have n0_ := Aside0.mk (hp_); have n1_ := Aside0.mk ((by rw [hw]; exact below_set (HB.out) GB16.out : Below w.heap.size w w19)); clear HO_7; clear HB; have HO_7 := n0_; have HB := n1_; clear n0_ n1_; clear hg hw hp_))
                            go_roundg k2
                            case measure => have := HK1.out; have := HK2.out; omega
                            case rel => exact ⟨(y202), (wrap64 (x9_2 + 1)), (by first | rfl | (simp; done) | (simp [*]; done)), H', ⟨by have := HK1.out; have := HK2.out; omega⟩, ⟨by (with_reducible repeat (first | apply Kd.R_alloc | apply Kd.R_drewN | apply Kd.R_drew)); exact HO_7.out⟩, ⟨by repeat (first | (with_reducible first | exact HB.out | apply below_alloc | apply pw_below_drewN | apply below_drew1) | exact HB.out)⟩⟩
                          · rw [if_neg c15] at H
                            exact absurd H (by simp)
                        · rw [if_neg c14] at H
                          exact absurd H (by simp)
                    · rw [if_neg c11] at H
                      have c11b0 : decide (x9_2 < ((rd_T35 l0 x8_1).f1)) = false := decide_eq_false c11
                      clear c11
                      have H' := Aside0.mk H
                      clear H
                      have p199 : 0 ≤ (x8_1 : Int) := of_decide_eq_true (by first | (with_reducible assumption) | assumption)
                      have q199 : x8_1 < (l0.length : Int) := of_decide_eq_true (by first | (with_reducible assumption) | assumption)
                      obtain ⟨ad199, e199, hx199_0, hx199_1, hx199_2⟩ := at_T35 HR0.out x8_1 p199 q199
                      cases e199
                      replace hx199_0 := (HB.out.cell (World.block_lt_of_cell? w _ hx199_0)).trans hx199_0
                      replace hx199_1 := (HB.out.cell (World.block_lt_of_cell? w _ hx199_1)).trans hx199_1
                      replace hx199_2 := (HB.out.cell (World.block_lt_of_cell? w _ hx199_2)).trans hx199_2
                      replace p199 := eq_true p199
                      replace q199 := eq_true q199
                      go_wp2
                      go_roundg k2
                      case measure => have := HK1.out; have := HK2.out; omega
                      case rel => exact ⟨(x7_2), (wrap64 (x8_1 + 1)), (by first | rfl | (simp; done) | (simp [*]; done)), H', ⟨by have := HK1.out; have := HK2.out; omega⟩, ⟨by (with_reducible repeat (first | apply Kd.R_alloc | apply Kd.R_drewN | apply Kd.R_drew)); exact HO_7.out⟩, ⟨by repeat (first | (with_reducible first | exact HB.out | apply below_alloc | apply pw_below_drewN | apply below_drew1) | exact HB.out)⟩⟩
                  · rw [if_neg c10] at H
                    exact absurd H (by simp)
                · rw [if_neg c9] at H
                  exact absurd H (by simp)
          · rw [if_neg c8] at H
            have c8b0 : decide (x8_1 < (l0.length : Int)) = false := decide_eq_false c8
            clear c8
            obtain rfl := Option.some.inj H
            go_wp2
            go_ret
            exact ⟨_, by first | rfl | (simp [errW_none, errW_some] <;> rfl) | (simp [*, errW_none, errW_some] <;> rfl), by (with_reducible repeat (first | apply Kd.R_alloc | apply Kd.R_drewN | apply Kd.R_drew)); exact HO_7.out, by repeat (first | (with_reducible first | exact HB.out | apply below_alloc | apply pw_below_drewN | apply below_drew1) | exact HB.out)⟩
    · rw [if_neg c5] at H
      exact absurd H (by simp)
  · rw [if_neg c4] at H
    exact absurd H (by simp)

/-! ### ferruleref13_Split: function 24 -/
mutual
def ferruleref13_Split.l0 : Nat → List (S35) → Int → List (S35) → Int → Option ((List (S35)))
  | 0, _, _, _, _ => none
  | k + 1, x0, x1, x5, x6 => if x6 < (x0.length : Int) then (ferruleref13_Split.l1 k x0 x1 x5 x6 0) else (some x5)
def ferruleref13_Split.l1 : Nat → List (S35) → Int → List (S35) → Int → Int → Option ((List (S35)))
  | 0, _, _, _, _, _ => none
  | k + 1, x0, x1, x5, x6, x7 => if 0 ≤ x6 then (if x6 < (x0.length : Int) then (if x7 < ((rd_T35 x0 x6).f1) then (if x7 = 0 then (if x5.length < 5864062014805 then ((some (x5 ++ [(⟨wrap64 (((rd_T35 x0 x6).f0) + x7), 0, wrap64 (((rd_T35 x0 x6).f2) + x7)⟩ : S35)] : List (S35))).bind fun y209 => (if 0 ≤ (wrap64 ((y209.length : Int) - 1)) then (if (wrap64 ((y209.length : Int) - 1)) < (y209.length : Int) then (ferruleref13_Split.l1 k x0 x1 (y209.set ((wrap64 ((y209.length : Int) - 1)) : Int).toNat (⟨(rd_T35 y209 (wrap64 ((y209.length : Int) - 1))).f0, wrap64 (((rd_T35 y209 (wrap64 ((y209.length : Int) - 1))).f1) + 1), (rd_T35 y209 (wrap64 ((y209.length : Int) - 1))).f2⟩ : S35)) x6 (wrap64 (x7 + 1))) else (none)) else (none))) else (none)) else (if x1 = 0 then (none) else (if (Int.tmod (wrap64 (((rd_T35 x0 x6).f2) + x7)) x1) = 0 then (if x5.length < 5864062014805 then ((some (x5 ++ [(⟨wrap64 (((rd_T35 x0 x6).f0) + x7), 0, wrap64 (((rd_T35 x0 x6).f2) + x7)⟩ : S35)] : List (S35))).bind fun y215 => (if 0 ≤ (wrap64 ((y215.length : Int) - 1)) then (if (wrap64 ((y215.length : Int) - 1)) < (y215.length : Int) then (ferruleref13_Split.l1 k x0 x1 (y215.set ((wrap64 ((y215.length : Int) - 1)) : Int).toNat (⟨(rd_T35 y215 (wrap64 ((y215.length : Int) - 1))).f0, wrap64 (((rd_T35 y215 (wrap64 ((y215.length : Int) - 1))).f1) + 1), (rd_T35 y215 (wrap64 ((y215.length : Int) - 1))).f2⟩ : S35)) x6 (wrap64 (x7 + 1))) else (none)) else (none))) else (none)) else (if 0 ≤ (wrap64 ((x5.length : Int) - 1)) then (if (wrap64 ((x5.length : Int) - 1)) < (x5.length : Int) then (ferruleref13_Split.l1 k x0 x1 (x5.set ((wrap64 ((x5.length : Int) - 1)) : Int).toNat (⟨(rd_T35 x5 (wrap64 ((x5.length : Int) - 1))).f0, wrap64 (((rd_T35 x5 (wrap64 ((x5.length : Int) - 1))).f1) + 1), (rd_T35 x5 (wrap64 ((x5.length : Int) - 1))).f2⟩ : S35)) x6 (wrap64 (x7 + 1))) else (none)) else (none))))) else (ferruleref13_Split.l0 k x0 x1 x5 (wrap64 (x6 + 1)))) else (none)) else (none)
end
def ferruleref13_Split.f (k : Nat) (l0 : List (S35)) (a1 : Int) : Option ((List (S35))) := if 0 ≤ 11728124029610 then (ferruleref13_Split.l0 k l0 a1 (List.replicate 0 z35) 0) else (none)
theorem ferruleref13_Split.mono_l : ∀ k, (∀ y0 y1 y2 y3, LeO (ferruleref13_Split.l0 k y0 y1 y2 y3) (ferruleref13_Split.l0 (k + 1) y0 y1 y2 y3)) ∧ (∀ y0 y1 y2 y3 y4, LeO (ferruleref13_Split.l1 k y0 y1 y2 y3 y4) (ferruleref13_Split.l1 (k + 1) y0 y1 y2 y3 y4))
  | 0 => ⟨fun _ _ _ _ r h => by simp [ferruleref13_Split.l0] at h, fun _ _ _ _ _ r h => by simp [ferruleref13_Split.l1] at h⟩
  | k + 1 => by
    obtain ⟨ih0, ih1⟩ := ferruleref13_Split.mono_l k
    refine ⟨?_, ?_⟩
    · intro y0 y1 y2 y3
      unfold ferruleref13_Split.l0
      repeat' first
      | (with_reducible exact ih0 _ _ _ _)
      | (with_reducible exact ih1 _ _ _ _ _)
      | (with_reducible exact LeO.refl _)
      | (with_reducible exact LeO.none _)
      | (with_reducible refine LeO.ite ?_ ?_)
      | (with_reducible refine LeO.bind ?_ (fun _ => ?_))
      | exact ih0 _ _ _ _
      | exact ih1 _ _ _ _ _
      | exact LeO.none _
      | refine LeO.ite ?_ ?_
      | refine LeO.bind ?_ (fun _ => ?_)
    · intro y0 y1 y2 y3 y4
      unfold ferruleref13_Split.l1
      repeat' first
      | (with_reducible exact ih0 _ _ _ _)
      | (with_reducible exact ih1 _ _ _ _ _)
      | (with_reducible exact LeO.refl _)
      | (with_reducible exact LeO.none _)
      | (with_reducible refine LeO.ite ?_ ?_)
      | (with_reducible refine LeO.bind ?_ (fun _ => ?_))
      | exact ih0 _ _ _ _
      | exact ih1 _ _ _ _ _
      | exact LeO.none _
      | refine LeO.ite ?_ ?_
      | refine LeO.bind ?_ (fun _ => ?_)
theorem ferruleref13_Split.mono : ∀ a0 a1 k, LeO (ferruleref13_Split.f k a0 a1) (ferruleref13_Split.f (k + 1) a0 a1) := by
  intro a0 a1 k
  obtain ⟨ih0, ih1⟩ := ferruleref13_Split.mono_l k
  unfold ferruleref13_Split.f
  repeat' first
      | (with_reducible exact ih0 _ _ _ _)
      | (with_reducible exact ih1 _ _ _ _ _)
      | (with_reducible exact LeO.refl _)
      | (with_reducible exact LeO.none _)
      | (with_reducible refine LeO.ite ?_ ?_)
      | (with_reducible refine LeO.bind ?_ (fun _ => ?_))
      | exact ih0 _ _ _ _
      | exact ih1 _ _ _ _ _
      | exact LeO.none _
      | refine LeO.ite ?_ ?_
      | refine LeO.bind ?_ (fun _ => ?_)
set_option maxHeartbeats 8000000 in
set_option maxRecDepth 100000 in
theorem ferruleref13_Split.calls (k : Nat) (A0 : Option Addr) (c0 : Nat) (l0 : List (S35)) (a1 : Int) (r : List (S35)) (w : World) (hr0 : Kd.C k35 w A0 l0.length l0) (hc0 : l0.length ≤ c0) (h : ferruleref13_Split.f k l0 a1 = some r) :
    Calls Try.prog 24 #[.slice A0 l0.length c0, .int .i64 a1] w fun e w' => ∃ v0_ : Value, e = .returned (v0_) ∧ Kd.R k35 35 w' w.heap.size (fun _ => True) v0_ r ∧ Below w.heap.size w w' := by
  have hu35 := Try.underlying35
  have HR0 := Aside0.mk hr0
  have HC0 := Aside0.mk hc0
  clear hr0 hc0
  have HB := Aside0.mk (Below.refl w.heap.size w)
  have H : (if 0 ≤ 11728124029610 then (ferruleref13_Split.l0 k l0 a1 (List.replicate 0 z35) 0) else (none)) = some r := h
  clear h
  by_cases c3 : 0 ≤ 11728124029610
  · rw [if_pos c3] at H
    have c3b0 := eq_true c3
    have c3b1 : decide (0 ≤ 11728124029610) = true := decide_eq_true c3
    clear c3
    obtain ⟨y203, hy203⟩ : ∃ y_ : List (S35), y_ = (List.replicate 0 z35) := ⟨_, rfl⟩
    replace H : (ferruleref13_Split.l0 k l0 a1 y203 0) = some r := by first | (rw [hy203]; with_reducible exact H) | (have H2_ := (Option.bind_some _ _).symm.trans H; rw [hy203]; with_reducible exact H2_) | (have H2_ := (Option.bind_some _ _).symm.trans H; with_reducible exact H2_) | with_reducible exact H | (rw [hy203]; exact H) | exact H
    have Ny203 := Aside0.mk hy203
    clear hy203
    have H' := Aside0.mk H
    clear H
    go_enter Try.func24, Try.ntmps24
    go_wp2_with (first | ((with_reducible refine gate_dst (N := 9) rfl ?_); refine Kd.R_make k35 _ 35 rfl (N := 9) rfl 27 _ _ rfl 0 rfl rfl Try.underlying27 (.agg #[(.int .i64 0), (.int .i64 0), (.int .i64 0)]) 24 info35 rfl (by decide) (by omega) z35 (ok := fun _ => True) (okp := fun _ => True) (k35_mkM _ _ _ z35 ) (fun _ hk => hk) trivial (by omega) (by omega) (Below.refl _ _) (Nat.le_refl _) ?_; intro v204 w4 ho5 hb hg_ hnew_; clear hg_ hnew_; (first | rw [← Ny203.out] at ho5 | (simp only [Int.reduceToNat] at ho5; rw [← Ny203.out] at ho5)); have n0_ := Aside0.mk (Kd.R_lower ho5 (below_size (by repeat (first | (with_reducible first | exact HB.out | apply below_alloc | apply pw_below_drewN | apply below_drew1) | exact HB.out)))); have n1_ := Aside0.mk (below_step (by repeat (first | (with_reducible first | exact HB.out | apply below_alloc | apply pw_below_drewN | apply below_drew1) | exact HB.out)) hb); clear HB; have HO205 := n0_; have HB := n1_; clear n0_ n1_; clear hb ho5))
    go_loopg [5, 6] k (fun kq v5 v6 w' => ∃ (x5_1 : List (S35)) (x6_1 : Int), v6 = .int .i64 x6_1 ∧ Aside0 (ferruleref13_Split.l0 kq l0 a1 x5_1 x6_1 = some r) ∧ Aside0 (kq ≤ k) ∧ Aside0 (Kd.R k35 35 w' w.heap.size (fun _ => True) v5 x5_1) ∧ Aside0 (Below w.heap.size w w'))
    case atStart => exact ⟨(y203), (0), (by first | rfl | (simp; done) | (simp [*]; done)), H', ⟨Nat.le_refl _⟩, ⟨by (with_reducible repeat (first | apply Kd.R_alloc | apply Kd.R_drewN | apply Kd.R_drew)); exact HO205.out⟩, ⟨by repeat (first | (with_reducible first | exact HB.out | apply below_alloc | apply pw_below_drewN | apply below_drew1) | exact HB.out)⟩⟩
    case round =>
      clear H'
      try clear c2
      try clear p2
      try clear c3
      try clear c3b0
      try clear c3b1
      obtain ⟨x5_1, x6_1, rfl, HA, HK1, HO_5, HB⟩ := hrel
      cases gk with
      | zero => exact absurd HA.out (by simp [ferruleref13_Split.l0])
      | succ k1 =>
        have H := HA.out
        clear HA
        simp only [ferruleref13_Split.l0] at H
        by_cases c6 : x6_1 < (l0.length : Int)
        · rw [if_pos c6] at H
          have c6b0 : decide (x6_1 < (l0.length : Int)) = true := decide_eq_true c6
          clear c6
          have H' := Aside0.mk H
          clear H
          go_wp2
          go_loopg [5, 7] k1 (fun kq v5 v7 w' => ∃ (x5_2 : List (S35)) (x7_2 : Int), v7 = .int .i64 x7_2 ∧ Aside0 (ferruleref13_Split.l1 kq l0 a1 x5_2 x6_1 x7_2 = some r) ∧ Aside0 (kq ≤ k1) ∧ Aside0 (Kd.R k35 35 w' w.heap.size (fun _ => True) v5 x5_2) ∧ Aside0 (Below w.heap.size w w'))
          case atStart => exact ⟨(x5_1), (0), (by first | rfl | (simp; done) | (simp [*]; done)), H', ⟨Nat.le_refl _⟩, ⟨by (with_reducible repeat (first | apply Kd.R_alloc | apply Kd.R_drewN | apply Kd.R_drew)); exact HO_5.out⟩, ⟨by repeat (first | (with_reducible first | exact HB.out | apply below_alloc | apply pw_below_drewN | apply below_drew1) | exact HB.out)⟩⟩
          case round =>
            clear H'
            try clear c2
            try clear p2
            try clear c3
            try clear c3b0
            try clear c3b1
            try clear c6
            try clear c6b0
            try clear p2
            obtain ⟨x5_2, x7_2, rfl, HA, HK2, HO_5, HB⟩ := hrel
            cases gk with
            | zero => exact absurd HA.out (by simp [ferruleref13_Split.l1])
            | succ k2 =>
              have H := HA.out
              clear HA
              simp only [ferruleref13_Split.l1] at H
              by_cases c7 : 0 ≤ x6_1
              · rw [if_pos c7] at H
                have c7b0 : decide (0 ≤ x6_1) = true := decide_eq_true c7
                clear c7
                by_cases c8 : x6_1 < (l0.length : Int)
                · rw [if_pos c8] at H
                  have c8b0 : decide (x6_1 < (l0.length : Int)) = true := decide_eq_true c8
                  clear c8
                  by_cases c9 : x7_2 < ((rd_T35 l0 x6_1).f1)
                  · rw [if_pos c9] at H
                    have c9b0 : decide (x7_2 < ((rd_T35 l0 x6_1).f1)) = true := decide_eq_true c9
                    clear c9
                    by_cases c10 : x7_2 = 0
                    · rw [if_pos c10] at H
                      have c10b0 : (x7_2 == 0) = true := beq_iff_eq.mpr c10
                      have c10b1 : (x7_2 != 0) = false := bne_eq_false_iff_eq.mpr c10
                      clear c10
                      by_cases c11 : x5_2.length < 5864062014805
                      · rw [if_pos c11] at H
                        have LMc11 := Aside0.mk c11
                        clear c11
                        obtain ⟨y209, hy209⟩ : ∃ y_ : List (S35), y_ = (x5_2 ++ [(⟨wrap64 (((rd_T35 l0 x6_1).f0) + x7_2), 0, wrap64 (((rd_T35 l0 x6_1).f2) + x7_2)⟩ : S35)]) := ⟨_, rfl⟩
                        replace H : (if 0 ≤ (wrap64 ((y209.length : Int) - 1)) then (if (wrap64 ((y209.length : Int) - 1)) < (y209.length : Int) then (ferruleref13_Split.l1 k2 l0 a1 (y209.set ((wrap64 ((y209.length : Int) - 1)) : Int).toNat (⟨(rd_T35 y209 (wrap64 ((y209.length : Int) - 1))).f0, wrap64 (((rd_T35 y209 (wrap64 ((y209.length : Int) - 1))).f1) + 1), (rd_T35 y209 (wrap64 ((y209.length : Int) - 1))).f2⟩ : S35)) x6_1 (wrap64 (x7_2 + 1))) else (none)) else (none)) = some r := by first | (rw [hy209]; with_reducible exact H) | (have H2_ := (Option.bind_some _ _).symm.trans H; rw [hy209]; with_reducible exact H2_) | (have H2_ := (Option.bind_some _ _).symm.trans H; with_reducible exact H2_) | with_reducible exact H | (rw [hy209]; exact H) | exact H
                        have Ny209 := Aside0.mk hy209
                        clear hy209
                        obtain ⟨ji12, hji12⟩ : ∃ j_ : Int, (wrap64 ((y209.length : Int) - 1)) = j_ := ⟨_, rfl⟩
                        replace H : (if 0 ≤ (ji12) then (if (ji12) < (y209.length : Int) then (ferruleref13_Split.l1 k2 l0 a1 (y209.set ((ji12) : Int).toNat (⟨(rd_T35 y209 (ji12)).f0, wrap64 (((rd_T35 y209 (ji12)).f1) + 1), (rd_T35 y209 (ji12)).f2⟩ : S35)) x6_1 (wrap64 (x7_2 + 1))) else (none)) else (none)) = some r := by first | (rw [hji12] at H; exact H) | (simp only [hji12] at H ⊢; exact H)
                        have hji12w : (IntKind.i64.wrap ((y209.length : Int) - 1)) = ji12 := (i64_w _).trans hji12
                        by_cases c13 : 0 ≤ (ji12)
                        · rw [if_pos c13] at H
                          have c13b0 : decide (0 ≤ (ji12)) = true := decide_eq_true c13
                          clear c13
                          by_cases c14 : (ji12) < (y209.length : Int)
                          · rw [if_pos c14] at H
                            have c14b0 : decide ((ji12) < (y209.length : Int)) = true := decide_eq_true c14
                            clear c14
                            obtain ⟨y213, hy213⟩ : ∃ y_ : List (S35), y_ = (y209.set ((ji12) : Int).toNat (⟨(rd_T35 y209 (ji12)).f0, wrap64 (((rd_T35 y209 (ji12)).f1) + 1), (rd_T35 y209 (ji12)).f2⟩ : S35)) := ⟨_, rfl⟩
                            replace H : (ferruleref13_Split.l1 k2 l0 a1 y213 x6_1 (wrap64 (x7_2 + 1))) = some r := by first | (rw [hy213]; with_reducible exact H) | (have H2_ := (Option.bind_some _ _).symm.trans H; rw [hy213]; with_reducible exact H2_) | (have H2_ := (Option.bind_some _ _).symm.trans H; with_reducible exact H2_) | with_reducible exact H | (rw [hy213]; exact H) | exact H
                            have Ny213 := Aside0.mk hy213
                            clear hy213
                            have H' := Aside0.mk H
                            clear H
                            have p206 : 0 ≤ (x6_1 : Int) := of_decide_eq_true (by first | (with_reducible assumption) | assumption)
                            have q206 : x6_1 < (l0.length : Int) := of_decide_eq_true (by first | (with_reducible assumption) | assumption)
                            obtain ⟨ad206, e206, hx206_0, hx206_1, hx206_2⟩ := at_T35 HR0.out x6_1 p206 q206
                            cases e206
                            replace hx206_0 := (HB.out.cell (World.block_lt_of_cell? w _ hx206_0)).trans hx206_0
                            replace hx206_1 := (HB.out.cell (World.block_lt_of_cell? w _ hx206_1)).trans hx206_1
                            replace hx206_2 := (HB.out.cell (World.block_lt_of_cell? w _ hx206_2)).trans hx206_2
                            replace p206 := eq_true p206
                            replace q206 := eq_true q206
                            have p207 : 0 ≤ (x6_1 : Int) := of_decide_eq_true (by first | (with_reducible assumption) | assumption)
                            have q207 : x6_1 < (l0.length : Int) := of_decide_eq_true (by first | (with_reducible assumption) | assumption)
                            obtain ⟨ad207, e207, hx207_0, hx207_1, hx207_2⟩ := at_T35 HR0.out x6_1 p207 q207
                            obtain rfl : ad206 = ad207 := (by injection e207)
                            replace hx207_0 := (HB.out.cell (World.block_lt_of_cell? w _ hx207_0)).trans hx207_0
                            replace hx207_1 := (HB.out.cell (World.block_lt_of_cell? w _ hx207_1)).trans hx207_1
                            replace hx207_2 := (HB.out.cell (World.block_lt_of_cell? w _ hx207_2)).trans hx207_2
                            replace p207 := eq_true p207
                            replace q207 := eq_true q207
                            have p208 : 0 ≤ (x6_1 : Int) := of_decide_eq_true (by first | (with_reducible assumption) | assumption)
                            have q208 : x6_1 < (l0.length : Int) := of_decide_eq_true (by first | (with_reducible assumption) | assumption)
                            obtain ⟨ad208, e208, hx208_0, hx208_1, hx208_2⟩ := at_T35 HR0.out x6_1 p208 q208
                            obtain rfl : ad206 = ad208 := (by injection e208)
                            replace hx208_0 := (HB.out.cell (World.block_lt_of_cell? w _ hx208_0)).trans hx208_0
                            replace hx208_1 := (HB.out.cell (World.block_lt_of_cell? w _ hx208_1)).trans hx208_1
                            replace hx208_2 := (HB.out.cell (World.block_lt_of_cell? w _ hx208_2)).trans hx208_2
                            replace p208 := eq_true p208
                            replace q208 := eq_true q208
                            go_wp2_with (first | ((with_reducible refine gate_builtin (b := .append) (xs := #[.tmp 40, .tmp 50]) rfl ?_); at_builtin; refine Kd.R_append k35 (w0 := w) w.heap.size rfl (.tmp 40) (.tmp 50) 27 35 (.agg #[(.int .i64 0), (.int .i64 0), (.int .i64 0)]) 24 rfl Try.underlying27 info35 rfl (by decide) (by omega) u5 x5_2 (⟨wrap64 (((rd_T35 l0 x6_1).f0) + x7_2), 0, wrap64 (((rd_T35 l0 x6_1).f2) + x7_2)⟩ : S35) [.int .i64 (wrap64 (((rd_T35 l0 x6_1).f0) + x7_2)), .int .i64 0, .int .i64 (wrap64 (((rd_T35 l0 x6_1).f2) + x7_2))] (fun _ => True) (fun _ => False) rfl rfl ?aP (fun _ hk => hk.elim) ?aF ?aO ?aB ?aS ?aL ?_; (case aP => exact k35_mkM _ _ _ (⟨wrap64 (((rd_T35 l0 x6_1).f0) + x7_2), 0, wrap64 (((rd_T35 l0 x6_1).f2) + x7_2)⟩ : S35)); (case aB => exact (by repeat (first | (with_reducible first | exact HB.out | apply below_alloc | apply pw_below_drewN | apply below_drew1) | exact HB.out))); (case aF => exact (fun _ _ => trivial)); (case aO => exact (by (with_reducible repeat (first | apply Kd.R_alloc | apply Kd.R_drewN | apply Kd.R_drew)); exact HO_5.out)); (case aS => exact (below_size (by repeat (first | (with_reducible first | exact HB.out | apply below_alloc | apply pw_below_drewN | apply below_drew1) | exact HB.out)))); (case aL => have := LMc11.out; omega); intro v210 w16 ho hb hg hat; rw [← Ny209.out] at ho; have n0_ := Aside0.mk (hb); have n1_ := Aside0.mk (ho); clear HB; clear HO_5; have HB := n0_; have HO211 := n1_; clear n0_ n1_; clear ho hb hg hat; obtain ⟨Ao17, co17, eo17⟩ := Kd.R_slice HO211.out; subst eo17; have p212 : 0 ≤ ((ji12) : Int) := of_decide_eq_true (by first | (with_reducible assumption) | assumption); have q212 : (ji12) < (y209.length : Int) := of_decide_eq_true (by first | (with_reducible assumption) | assumption); obtain ⟨ad212, e212, hx212_0, hx212_1, hx212_2⟩ := at_T35 (Kd.R_reads' HO211.out).2.2 (ji12) p212 q212; cases e212; replace p212 := eq_true p212; replace q212 := eq_true q212; have p15 : 0 ≤ ((ji12) : Int) := of_decide_eq_true (by first | (with_reducible assumption) | assumption); have q15 : ((ji12) : Int) < ((y209.length : Int) : Int) := of_decide_eq_true (by first | (with_reducible assumption) | assumption); obtain ⟨go15, co15, eo15, gb15, gl15, cl15, HG15⟩ := Kd.R_form HO211.out (by omega); (first | cases eo15 | (injection eo15 with ea_ en_ ec_; (first | subst ea_ | (injection ea_ with ea_; subst ea_)); subst ec_; clear en_)); have GB15 := Aside0.mk gb15; have GG15 := Aside0.mk HG15; clear gb15 gl15 HG15; (first | simp only [add_plain] at hx212_0 | skip); (first | simp only [add_plain] at hx212_1 | skip); (first | simp only [add_plain] at hx212_2 | skip); obtain ⟨ce15, hcl15, hM15, hcc15, hfr15⟩ := Kd.R_elem HO211.out z35 ((ji12) : Int) p15 q15; obtain rfl := k35_openM hM15; have hx15_0 : w16.cell? ⟨go15, ((ji12) : Int).toNat * 3, none⟩ = some (.int .i64 ((rd_T35 y209 (ji12)).f0)) := hcc15 0 _ rfl; have hx15_1 : w16.cell? ⟨go15, ((ji12) : Int).toNat * 3 + 1, none⟩ = some (.int .i64 ((rd_T35 y209 (ji12)).f1)) := hcc15 1 _ rfl; have hx15_2 : w16.cell? ⟨go15, ((ji12) : Int).toNat * 3 + 2, none⟩ = some (.int .i64 ((rd_T35 y209 (ji12)).f2)) := hcc15 2 _ rfl; have hf15_0 : w16.frozen? ⟨go15, ((ji12) : Int).toNat * 3, none⟩ = false := hfr15 0; have hf15_1 : w16.frozen? ⟨go15, ((ji12) : Int).toNat * 3 + 1, none⟩ = false := hfr15 1; have hf15_2 : w16.frozen? ⟨go15, ((ji12) : Int).toNat * 3 + 2, none⟩ = false := hfr15 2; clear hcl15 hcc15 hfr15 hM15; replace p15 := eq_true p15; replace q15 := eq_true q15; have HX18 := Aside0.mk (show Kd.R k35 35 w16 w.heap.size (fun _ => True) (.slice (some ⟨go15, 0, none⟩) y209.length co17) y209 from (by (with_reducible repeat (first | apply Kd.R_alloc | apply Kd.R_drewN | apply Kd.R_drew)); exact HO211.out)); obtain ⟨ce18, hcl18, hM18, hcc18, hfr18⟩ := Kd.R_elem HX18.out z35 ((ji12) : Int) (of_decide_eq_true (by first | (with_reducible assumption) | assumption)) (by have h_ : ((ji12) : Int) < ((y209.length : Int) : Int) := of_decide_eq_true (by first | (with_reducible assumption) | assumption); first | exact h_ | (have e_ := (Kd.R_reads' HO211.out).1; omega) | simpa using h_); obtain rfl := k35_openM hM18; have HP18 := Kd.R_seg HX18.out ((ji12) : Int) (of_decide_eq_true (by first | (with_reducible assumption) | assumption)) (by have h_ : ((ji12) : Int) < ((y209.length : Int) : Int) := of_decide_eq_true (by first | (with_reducible assumption) | assumption); first | exact h_ | (have e_ := (Kd.R_reads' HO211.out).1; omega) | simpa using h_) (seg := [.int .i64 (wrap64 (((rd_T35 y209 (ji12)).f1) + 1))]) (j := 1) hcl18 hcc18 (show 2 ≤ 3 from by decide) (x' := (⟨(rd_T35 y209 (ji12)).f0, wrap64 (((rd_T35 y209 (ji12)).f1) + 1), (rd_T35 y209 (ji12)).f2⟩ : S35)) (k35_mkM _ _ _ (⟨(rd_T35 y209 (ji12)).f0, wrap64 (((rd_T35 y209 (ji12)).f1) + 1), (rd_T35 y209 (ji12)).f2⟩ : S35) ) (fun _ hk => hk); have hx18_1 := hcc18 1 _ rfl; (try simp only [show (k35).sz = 3 from rfl, Nat.mul_one, Nat.add_zero] at hx18_1); have hf18_1 := hfr18 1; (try simp only [show (k35).sz = 3 from rfl, Nat.mul_one, Nat.add_zero] at hf18_1); clear hcl18 hcc18 hfr18 hM18) | ((with_reducible refine gate_store (t := 3) (p := 61) rfl ?_); refine store_event (t := 3) (p := 61) (v := ?vo_w19) (w1 := (w16.setCell ⟨go15, ((ji12) : Int).toNat * 3 + 1, none⟩ (.int .i64 (wrap64 (((rd_T35 y209 (ji12)).f1) + 1))))) ?hg ?ho ?hn ?hr ?_; (case ho => rfl); (case hg => rfl); (case hn => rfl); (case hr => first | (go_simp; done) | (go_simp; rfl)); intro w19 hw; have hg : w16.grownBy w19 (some go15) := (by rw [hw]; exact HP18.2); have hp_ : Kd.R k35 35 w19 w.heap.size (fun _ => True) (.slice (some ⟨go15, 0, none⟩) y209.length co17) y213 := (by rw [hw, Ny213.out]; exact HP18.1); clear HP18; have n0_ := Aside0.mk (hp_); have n1_ := Aside0.mk ((by rw [hw]; exact below_set (HB.out) GB15.out : Below w.heap.size w w19)); clear HO211; clear HB; have HO211 := n0_; have HB := n1_; clear n0_ n1_; clear hg hw hp_))
                            go_roundg k2
                            case measure => have := HK1.out; have := HK2.out; omega
                            case rel => exact ⟨(y213), (wrap64 (x7_2 + 1)), (by first | rfl | (simp; done) | (simp [*]; done)), H', ⟨by have := HK1.out; have := HK2.out; omega⟩, ⟨by (with_reducible repeat (first | apply Kd.R_alloc | apply Kd.R_drewN | apply Kd.R_drew)); exact HO211.out⟩, ⟨by repeat (first | (with_reducible first | exact HB.out | apply below_alloc | apply pw_below_drewN | apply below_drew1) | exact HB.out)⟩⟩
                          · rw [if_neg c14] at H
                            exact absurd H (by simp)
                        · rw [if_neg c13] at H
                          exact absurd H (by simp)
                      · rw [if_neg c11] at H
                        exact absurd H (by simp)
                    · rw [if_neg c10] at H
                      have c10b0 : (x7_2 == 0) = false := beq_eq_false_iff_ne.mpr c10
                      have c10b1 : (x7_2 != 0) = true := bne_iff_ne.mpr c10
                      by_cases c20 : a1 = 0
                      · rw [if_pos c20] at H
                        exact absurd H (by simp)
                      · rw [if_neg c20] at H
                        have c20b0 : (a1 == 0) = false := beq_eq_false_iff_ne.mpr c20
                        have c20b1 : (a1 != 0) = true := bne_iff_ne.mpr c20
                        by_cases c21 : (Int.tmod (wrap64 (((rd_T35 l0 x6_1).f2) + x7_2)) a1) = 0
                        · rw [if_pos c21] at H
                          have c21b0 : ((Int.tmod (wrap64 (((rd_T35 l0 x6_1).f2) + x7_2)) a1) == 0) = true := beq_iff_eq.mpr c21
                          have c21b1 : ((Int.tmod (wrap64 (((rd_T35 l0 x6_1).f2) + x7_2)) a1) != 0) = false := bne_eq_false_iff_eq.mpr c21
                          clear c21
                          by_cases c22 : x5_2.length < 5864062014805
                          · rw [if_pos c22] at H
                            have LMc22 := Aside0.mk c22
                            clear c22
                            obtain ⟨y215, hy215⟩ : ∃ y_ : List (S35), y_ = (x5_2 ++ [(⟨wrap64 (((rd_T35 l0 x6_1).f0) + x7_2), 0, wrap64 (((rd_T35 l0 x6_1).f2) + x7_2)⟩ : S35)]) := ⟨_, rfl⟩
                            replace H : (if 0 ≤ (wrap64 ((y215.length : Int) - 1)) then (if (wrap64 ((y215.length : Int) - 1)) < (y215.length : Int) then (ferruleref13_Split.l1 k2 l0 a1 (y215.set ((wrap64 ((y215.length : Int) - 1)) : Int).toNat (⟨(rd_T35 y215 (wrap64 ((y215.length : Int) - 1))).f0, wrap64 (((rd_T35 y215 (wrap64 ((y215.length : Int) - 1))).f1) + 1), (rd_T35 y215 (wrap64 ((y215.length : Int) - 1))).f2⟩ : S35)) x6_1 (wrap64 (x7_2 + 1))) else (none)) else (none)) = some r := by first | (rw [hy215]; with_reducible exact H) | (have H2_ := (Option.bind_some _ _).symm.trans H; rw [hy215]; with_reducible exact H2_) | (have H2_ := (Option.bind_some _ _).symm.trans H; with_reducible exact H2_) | with_reducible exact H | (rw [hy215]; exact H) | exact H
                            have Ny215 := Aside0.mk hy215
                            clear hy215
                            obtain ⟨ji23, hji23⟩ : ∃ j_ : Int, (wrap64 ((y215.length : Int) - 1)) = j_ := ⟨_, rfl⟩
                            replace H : (if 0 ≤ (ji23) then (if (ji23) < (y215.length : Int) then (ferruleref13_Split.l1 k2 l0 a1 (y215.set ((ji23) : Int).toNat (⟨(rd_T35 y215 (ji23)).f0, wrap64 (((rd_T35 y215 (ji23)).f1) + 1), (rd_T35 y215 (ji23)).f2⟩ : S35)) x6_1 (wrap64 (x7_2 + 1))) else (none)) else (none)) = some r := by first | (rw [hji23] at H; exact H) | (simp only [hji23] at H ⊢; exact H)
                            have hji23w : (IntKind.i64.wrap ((y215.length : Int) - 1)) = ji23 := (i64_w _).trans hji23
                            by_cases c24 : 0 ≤ (ji23)
                            · rw [if_pos c24] at H
                              have c24b0 : decide (0 ≤ (ji23)) = true := decide_eq_true c24
                              clear c24
                              by_cases c25 : (ji23) < (y215.length : Int)
                              · rw [if_pos c25] at H
                                have c25b0 : decide ((ji23) < (y215.length : Int)) = true := decide_eq_true c25
                                clear c25
                                obtain ⟨y219, hy219⟩ : ∃ y_ : List (S35), y_ = (y215.set ((ji23) : Int).toNat (⟨(rd_T35 y215 (ji23)).f0, wrap64 (((rd_T35 y215 (ji23)).f1) + 1), (rd_T35 y215 (ji23)).f2⟩ : S35)) := ⟨_, rfl⟩
                                replace H : (ferruleref13_Split.l1 k2 l0 a1 y219 x6_1 (wrap64 (x7_2 + 1))) = some r := by first | (rw [hy219]; with_reducible exact H) | (have H2_ := (Option.bind_some _ _).symm.trans H; rw [hy219]; with_reducible exact H2_) | (have H2_ := (Option.bind_some _ _).symm.trans H; with_reducible exact H2_) | with_reducible exact H | (rw [hy219]; exact H) | exact H
                                have Ny219 := Aside0.mk hy219
                                clear hy219
                                have H' := Aside0.mk H
                                clear H
                                have p206 : 0 ≤ (x6_1 : Int) := of_decide_eq_true (by first | (with_reducible assumption) | assumption)
                                have q206 : x6_1 < (l0.length : Int) := of_decide_eq_true (by first | (with_reducible assumption) | assumption)
                                obtain ⟨ad206, e206, hx206_0, hx206_1, hx206_2⟩ := at_T35 HR0.out x6_1 p206 q206
                                cases e206
                                replace hx206_0 := (HB.out.cell (World.block_lt_of_cell? w _ hx206_0)).trans hx206_0
                                replace hx206_1 := (HB.out.cell (World.block_lt_of_cell? w _ hx206_1)).trans hx206_1
                                replace hx206_2 := (HB.out.cell (World.block_lt_of_cell? w _ hx206_2)).trans hx206_2
                                replace p206 := eq_true p206
                                replace q206 := eq_true q206
                                have p207 : 0 ≤ (x6_1 : Int) := of_decide_eq_true (by first | (with_reducible assumption) | assumption)
                                have q207 : x6_1 < (l0.length : Int) := of_decide_eq_true (by first | (with_reducible assumption) | assumption)
                                obtain ⟨ad207, e207, hx207_0, hx207_1, hx207_2⟩ := at_T35 HR0.out x6_1 p207 q207
                                obtain rfl : ad206 = ad207 := (by injection e207)
                                replace hx207_0 := (HB.out.cell (World.block_lt_of_cell? w _ hx207_0)).trans hx207_0
                                replace hx207_1 := (HB.out.cell (World.block_lt_of_cell? w _ hx207_1)).trans hx207_1
                                replace hx207_2 := (HB.out.cell (World.block_lt_of_cell? w _ hx207_2)).trans hx207_2
                                replace p207 := eq_true p207
                                replace q207 := eq_true q207
                                have p214 : 0 ≤ (x6_1 : Int) := of_decide_eq_true (by first | (with_reducible assumption) | assumption)
                                have q214 : x6_1 < (l0.length : Int) := of_decide_eq_true (by first | (with_reducible assumption) | assumption)
                                obtain ⟨ad214, e214, hx214_0, hx214_1, hx214_2⟩ := at_T35 HR0.out x6_1 p214 q214
                                obtain rfl : ad206 = ad214 := (by injection e214)
                                replace hx214_0 := (HB.out.cell (World.block_lt_of_cell? w _ hx214_0)).trans hx214_0
                                replace hx214_1 := (HB.out.cell (World.block_lt_of_cell? w _ hx214_1)).trans hx214_1
                                replace hx214_2 := (HB.out.cell (World.block_lt_of_cell? w _ hx214_2)).trans hx214_2
                                replace p214 := eq_true p214
                                replace q214 := eq_true q214
                                go_wp2_with (first | ((with_reducible refine gate_builtin (b := .append) (xs := #[.tmp 40, .tmp 50]) rfl ?_); at_builtin; refine Kd.R_append k35 (w0 := w) w.heap.size rfl (.tmp 40) (.tmp 50) 27 35 (.agg #[(.int .i64 0), (.int .i64 0), (.int .i64 0)]) 24 rfl Try.underlying27 info35 rfl (by decide) (by omega) u5 x5_2 (⟨wrap64 (((rd_T35 l0 x6_1).f0) + x7_2), 0, wrap64 (((rd_T35 l0 x6_1).f2) + x7_2)⟩ : S35) [.int .i64 (wrap64 (((rd_T35 l0 x6_1).f0) + x7_2)), .int .i64 0, .int .i64 (wrap64 (((rd_T35 l0 x6_1).f2) + x7_2))] (fun _ => True) (fun _ => False) rfl rfl ?aP (fun _ hk => hk.elim) ?aF ?aO ?aB ?aS ?aL ?_; (case aP => exact k35_mkM _ _ _ (⟨wrap64 (((rd_T35 l0 x6_1).f0) + x7_2), 0, wrap64 (((rd_T35 l0 x6_1).f2) + x7_2)⟩ : S35)); (case aB => exact (by repeat (first | (with_reducible first | exact HB.out | apply below_alloc | apply pw_below_drewN | apply below_drew1) | exact HB.out))); (case aF => exact (fun _ _ => trivial)); (case aO => exact (by (with_reducible repeat (first | apply Kd.R_alloc | apply Kd.R_drewN | apply Kd.R_drew)); exact HO_5.out)); (case aS => exact (below_size (by repeat (first | (with_reducible first | exact HB.out | apply below_alloc | apply pw_below_drewN | apply below_drew1) | exact HB.out)))); (case aL => have := LMc22.out; omega); intro v216 w27 ho hb hg hat; rw [← Ny215.out] at ho; have n0_ := Aside0.mk (hb); have n1_ := Aside0.mk (ho); clear HB; clear HO_5; have HB := n0_; have HO217 := n1_; clear n0_ n1_; clear ho hb hg hat; obtain ⟨Ao28, co28, eo28⟩ := Kd.R_slice HO217.out; subst eo28; have p218 : 0 ≤ ((ji23) : Int) := of_decide_eq_true (by first | (with_reducible assumption) | assumption); have q218 : (ji23) < (y215.length : Int) := of_decide_eq_true (by first | (with_reducible assumption) | assumption); obtain ⟨ad218, e218, hx218_0, hx218_1, hx218_2⟩ := at_T35 (Kd.R_reads' HO217.out).2.2 (ji23) p218 q218; cases e218; replace p218 := eq_true p218; replace q218 := eq_true q218; have p26 : 0 ≤ ((ji23) : Int) := of_decide_eq_true (by first | (with_reducible assumption) | assumption); have q26 : ((ji23) : Int) < ((y215.length : Int) : Int) := of_decide_eq_true (by first | (with_reducible assumption) | assumption); obtain ⟨go26, co26, eo26, gb26, gl26, cl26, HG26⟩ := Kd.R_form HO217.out (by omega); (first | cases eo26 | (injection eo26 with ea_ en_ ec_; (first | subst ea_ | (injection ea_ with ea_; subst ea_)); subst ec_; clear en_)); have GB26 := Aside0.mk gb26; have GG26 := Aside0.mk HG26; clear gb26 gl26 HG26; (first | simp only [add_plain] at hx218_0 | skip); (first | simp only [add_plain] at hx218_1 | skip); (first | simp only [add_plain] at hx218_2 | skip); obtain ⟨ce26, hcl26, hM26, hcc26, hfr26⟩ := Kd.R_elem HO217.out z35 ((ji23) : Int) p26 q26; obtain rfl := k35_openM hM26; have hx26_0 : w27.cell? ⟨go26, ((ji23) : Int).toNat * 3, none⟩ = some (.int .i64 ((rd_T35 y215 (ji23)).f0)) := hcc26 0 _ rfl; have hx26_1 : w27.cell? ⟨go26, ((ji23) : Int).toNat * 3 + 1, none⟩ = some (.int .i64 ((rd_T35 y215 (ji23)).f1)) := hcc26 1 _ rfl; have hx26_2 : w27.cell? ⟨go26, ((ji23) : Int).toNat * 3 + 2, none⟩ = some (.int .i64 ((rd_T35 y215 (ji23)).f2)) := hcc26 2 _ rfl; have hf26_0 : w27.frozen? ⟨go26, ((ji23) : Int).toNat * 3, none⟩ = false := hfr26 0; have hf26_1 : w27.frozen? ⟨go26, ((ji23) : Int).toNat * 3 + 1, none⟩ = false := hfr26 1; have hf26_2 : w27.frozen? ⟨go26, ((ji23) : Int).toNat * 3 + 2, none⟩ = false := hfr26 2; clear hcl26 hcc26 hfr26 hM26; replace p26 := eq_true p26; replace q26 := eq_true q26; have HX29 := Aside0.mk (show Kd.R k35 35 w27 w.heap.size (fun _ => True) (.slice (some ⟨go26, 0, none⟩) y215.length co28) y215 from (by (with_reducible repeat (first | apply Kd.R_alloc | apply Kd.R_drewN | apply Kd.R_drew)); exact HO217.out)); obtain ⟨ce29, hcl29, hM29, hcc29, hfr29⟩ := Kd.R_elem HX29.out z35 ((ji23) : Int) (of_decide_eq_true (by first | (with_reducible assumption) | assumption)) (by have h_ : ((ji23) : Int) < ((y215.length : Int) : Int) := of_decide_eq_true (by first | (with_reducible assumption) | assumption); first | exact h_ | (have e_ := (Kd.R_reads' HO217.out).1; omega) | simpa using h_); obtain rfl := k35_openM hM29; have HP29 := Kd.R_seg HX29.out ((ji23) : Int) (of_decide_eq_true (by first | (with_reducible assumption) | assumption)) (by have h_ : ((ji23) : Int) < ((y215.length : Int) : Int) := of_decide_eq_true (by first | (with_reducible assumption) | assumption); first | exact h_ | (have e_ := (Kd.R_reads' HO217.out).1; omega) | simpa using h_) (seg := [.int .i64 (wrap64 (((rd_T35 y215 (ji23)).f1) + 1))]) (j := 1) hcl29 hcc29 (show 2 ≤ 3 from by decide) (x' := (⟨(rd_T35 y215 (ji23)).f0, wrap64 (((rd_T35 y215 (ji23)).f1) + 1), (rd_T35 y215 (ji23)).f2⟩ : S35)) (k35_mkM _ _ _ (⟨(rd_T35 y215 (ji23)).f0, wrap64 (((rd_T35 y215 (ji23)).f1) + 1), (rd_T35 y215 (ji23)).f2⟩ : S35) ) (fun _ hk => hk); have hx29_1 := hcc29 1 _ rfl; (try simp only [show (k35).sz = 3 from rfl, Nat.mul_one, Nat.add_zero] at hx29_1); have hf29_1 := hfr29 1; (try simp only [show (k35).sz = 3 from rfl, Nat.mul_one, Nat.add_zero] at hf29_1); clear hcl29 hcc29 hfr29 hM29) | ((with_reducible refine gate_store (t := 3) (p := 61) rfl ?_); refine store_event (t := 3) (p := 61) (v := ?vo_w30) (w1 := (w27.setCell ⟨go26, ((ji23) : Int).toNat * 3 + 1, none⟩ (.int .i64 (wrap64 (((rd_T35 y215 (ji23)).f1) + 1))))) ?hg ?ho ?hn ?hr ?_; (case ho => rfl); (case hg => rfl); (case hn => rfl); (case hr => first | (go_simp; done) | (go_simp; rfl)); intro w30 hw; have hg : w27.grownBy w30 (some go26) := (by rw [hw]; exact HP29.2); have hp_ : Kd.R k35 35 w30 w.heap.size (fun _ => True) (.slice (some ⟨go26, 0, none⟩) y215.length co28) y219 := (by rw [hw, Ny219.out]; exact HP29.1); clear HP29; have n0_ := Aside0.mk (hp_); have n1_ := Aside0.mk ((by rw [hw]; exact below_set (HB.out) GB26.out : Below w.heap.size w w30)); clear HO217; clear HB; have HO217 := n0_; have HB := n1_; clear n0_ n1_; clear hg hw hp_))
                                go_roundg k2
                                case measure => have := HK1.out; have := HK2.out; omega
                                case rel => exact ⟨(y219), (wrap64 (x7_2 + 1)), (by first | rfl | (simp; done) | (simp [*]; done)), H', ⟨by have := HK1.out; have := HK2.out; omega⟩, ⟨by (with_reducible repeat (first | apply Kd.R_alloc | apply Kd.R_drewN | apply Kd.R_drew)); exact HO217.out⟩, ⟨by repeat (first | (with_reducible first | exact HB.out | apply below_alloc | apply pw_below_drewN | apply below_drew1) | exact HB.out)⟩⟩
                              · rw [if_neg c25] at H
                                exact absurd H (by simp)
                            · rw [if_neg c24] at H
                              exact absurd H (by simp)
                          · rw [if_neg c22] at H
                            exact absurd H (by simp)
                        · rw [if_neg c21] at H
                          have c21b0 : ((Int.tmod (wrap64 (((rd_T35 l0 x6_1).f2) + x7_2)) a1) == 0) = false := beq_eq_false_iff_ne.mpr c21
                          have c21b1 : ((Int.tmod (wrap64 (((rd_T35 l0 x6_1).f2) + x7_2)) a1) != 0) = true := bne_iff_ne.mpr c21
                          obtain ⟨ji31, hji31⟩ : ∃ j_ : Int, (wrap64 ((x5_2.length : Int) - 1)) = j_ := ⟨_, rfl⟩
                          replace H : (if 0 ≤ (ji31) then (if (ji31) < (x5_2.length : Int) then (ferruleref13_Split.l1 k2 l0 a1 (x5_2.set ((ji31) : Int).toNat (⟨(rd_T35 x5_2 (ji31)).f0, wrap64 (((rd_T35 x5_2 (ji31)).f1) + 1), (rd_T35 x5_2 (ji31)).f2⟩ : S35)) x6_1 (wrap64 (x7_2 + 1))) else (none)) else (none)) = some r := by first | (rw [hji31] at H; exact H) | (simp only [hji31] at H ⊢; exact H)
                          have hji31w : (IntKind.i64.wrap ((x5_2.length : Int) - 1)) = ji31 := (i64_w _).trans hji31
                          by_cases c32 : 0 ≤ (ji31)
                          · rw [if_pos c32] at H
                            have c32b0 : decide (0 ≤ (ji31)) = true := decide_eq_true c32
                            clear c32
                            by_cases c33 : (ji31) < (x5_2.length : Int)
                            · rw [if_pos c33] at H
                              have c33b0 : decide ((ji31) < (x5_2.length : Int)) = true := decide_eq_true c33
                              clear c33
                              obtain ⟨y221, hy221⟩ : ∃ y_ : List (S35), y_ = (x5_2.set ((ji31) : Int).toNat (⟨(rd_T35 x5_2 (ji31)).f0, wrap64 (((rd_T35 x5_2 (ji31)).f1) + 1), (rd_T35 x5_2 (ji31)).f2⟩ : S35)) := ⟨_, rfl⟩
                              replace H : (ferruleref13_Split.l1 k2 l0 a1 y221 x6_1 (wrap64 (x7_2 + 1))) = some r := by first | (rw [hy221]; with_reducible exact H) | (have H2_ := (Option.bind_some _ _).symm.trans H; rw [hy221]; with_reducible exact H2_) | (have H2_ := (Option.bind_some _ _).symm.trans H; with_reducible exact H2_) | with_reducible exact H | (rw [hy221]; exact H) | exact H
                              have Ny221 := Aside0.mk hy221
                              clear hy221
                              have H' := Aside0.mk H
                              clear H
                              have p206 : 0 ≤ (x6_1 : Int) := of_decide_eq_true (by first | (with_reducible assumption) | assumption)
                              have q206 : x6_1 < (l0.length : Int) := of_decide_eq_true (by first | (with_reducible assumption) | assumption)
                              obtain ⟨ad206, e206, hx206_0, hx206_1, hx206_2⟩ := at_T35 HR0.out x6_1 p206 q206
                              cases e206
                              replace hx206_0 := (HB.out.cell (World.block_lt_of_cell? w _ hx206_0)).trans hx206_0
                              replace hx206_1 := (HB.out.cell (World.block_lt_of_cell? w _ hx206_1)).trans hx206_1
                              replace hx206_2 := (HB.out.cell (World.block_lt_of_cell? w _ hx206_2)).trans hx206_2
                              replace p206 := eq_true p206
                              replace q206 := eq_true q206
                              have p207 : 0 ≤ (x6_1 : Int) := of_decide_eq_true (by first | (with_reducible assumption) | assumption)
                              have q207 : x6_1 < (l0.length : Int) := of_decide_eq_true (by first | (with_reducible assumption) | assumption)
                              obtain ⟨ad207, e207, hx207_0, hx207_1, hx207_2⟩ := at_T35 HR0.out x6_1 p207 q207
                              obtain rfl : ad206 = ad207 := (by injection e207)
                              replace hx207_0 := (HB.out.cell (World.block_lt_of_cell? w _ hx207_0)).trans hx207_0
                              replace hx207_1 := (HB.out.cell (World.block_lt_of_cell? w _ hx207_1)).trans hx207_1
                              replace hx207_2 := (HB.out.cell (World.block_lt_of_cell? w _ hx207_2)).trans hx207_2
                              replace p207 := eq_true p207
                              replace q207 := eq_true q207
                              obtain ⟨Ao35, co35, eo35⟩ := Kd.R_slice HO_5.out
                              subst eo35
                              have p220 : 0 ≤ ((ji31) : Int) := of_decide_eq_true (by first | (with_reducible assumption) | assumption)
                              have q220 : (ji31) < (x5_2.length : Int) := of_decide_eq_true (by first | (with_reducible assumption) | assumption)
                              obtain ⟨ad220, e220, hx220_0, hx220_1, hx220_2⟩ := at_T35 (Kd.R_reads' HO_5.out).2.2 (ji31) p220 q220
                              cases e220
                              replace p220 := eq_true p220
                              replace q220 := eq_true q220
                              have p34 : 0 ≤ ((ji31) : Int) := of_decide_eq_true (by first | (with_reducible assumption) | assumption)
                              have q34 : ((ji31) : Int) < ((x5_2.length : Int) : Int) := of_decide_eq_true (by first | (with_reducible assumption) | assumption)
                              obtain ⟨go34, co34, eo34, gb34, gl34, cl34, HG34⟩ := Kd.R_form HO_5.out (by omega)
                              (first | cases eo34 | (injection eo34 with ea_ en_ ec_; (first | subst ea_ | (injection ea_ with ea_; subst ea_)); subst ec_; clear en_))
                              have GB34 := Aside0.mk gb34
                              have GG34 := Aside0.mk HG34
                              clear gb34 gl34 HG34
                              (first | simp only [add_plain] at hx220_0 | skip)
                              (first | simp only [add_plain] at hx220_1 | skip)
                              (first | simp only [add_plain] at hx220_2 | skip)
                              obtain ⟨ce34, hcl34, hM34, hcc34, hfr34⟩ := Kd.R_elem HO_5.out z35 ((ji31) : Int) p34 q34
                              obtain rfl := k35_openM hM34
                              have hx34_0 : wr.cell? ⟨go34, ((ji31) : Int).toNat * 3, none⟩ = some (.int .i64 ((rd_T35 x5_2 (ji31)).f0)) := hcc34 0 _ rfl
                              have hx34_1 : wr.cell? ⟨go34, ((ji31) : Int).toNat * 3 + 1, none⟩ = some (.int .i64 ((rd_T35 x5_2 (ji31)).f1)) := hcc34 1 _ rfl
                              have hx34_2 : wr.cell? ⟨go34, ((ji31) : Int).toNat * 3 + 2, none⟩ = some (.int .i64 ((rd_T35 x5_2 (ji31)).f2)) := hcc34 2 _ rfl
                              have hf34_0 : wr.frozen? ⟨go34, ((ji31) : Int).toNat * 3, none⟩ = false := hfr34 0
                              have hf34_1 : wr.frozen? ⟨go34, ((ji31) : Int).toNat * 3 + 1, none⟩ = false := hfr34 1
                              have hf34_2 : wr.frozen? ⟨go34, ((ji31) : Int).toNat * 3 + 2, none⟩ = false := hfr34 2
                              clear hcl34 hcc34 hfr34 hM34
                              replace p34 := eq_true p34
                              replace q34 := eq_true q34
                              have HX36 := Aside0.mk (show Kd.R k35 35 wr w.heap.size (fun _ => True) (.slice (some ⟨go34, 0, none⟩) x5_2.length co35) x5_2 from (by (with_reducible repeat (first | apply Kd.R_alloc | apply Kd.R_drewN | apply Kd.R_drew)); exact HO_5.out))
                              obtain ⟨ce36, hcl36, hM36, hcc36, hfr36⟩ := Kd.R_elem HX36.out z35 ((ji31) : Int) (of_decide_eq_true (by first | (with_reducible assumption) | assumption)) (by have h_ : ((ji31) : Int) < ((x5_2.length : Int) : Int) := of_decide_eq_true (by first | (with_reducible assumption) | assumption); first | exact h_ | (have e_ := (Kd.R_reads' HO_5.out).1; omega) | simpa using h_)
                              obtain rfl := k35_openM hM36
                              have HP36 := Kd.R_seg HX36.out ((ji31) : Int) (of_decide_eq_true (by first | (with_reducible assumption) | assumption)) (by have h_ : ((ji31) : Int) < ((x5_2.length : Int) : Int) := of_decide_eq_true (by first | (with_reducible assumption) | assumption); first | exact h_ | (have e_ := (Kd.R_reads' HO_5.out).1; omega) | simpa using h_) (seg := [.int .i64 (wrap64 (((rd_T35 x5_2 (ji31)).f1) + 1))]) (j := 1) hcl36 hcc36 (show 2 ≤ 3 from by decide) (x' := (⟨(rd_T35 x5_2 (ji31)).f0, wrap64 (((rd_T35 x5_2 (ji31)).f1) + 1), (rd_T35 x5_2 (ji31)).f2⟩ : S35)) (k35_mkM _ _ _ (⟨(rd_T35 x5_2 (ji31)).f0, wrap64 (((rd_T35 x5_2 (ji31)).f1) + 1), (rd_T35 x5_2 (ji31)).f2⟩ : S35) ) (fun _ hk => hk)
                              have hx36_1 := hcc36 1 _ rfl
                              (try simp only [show (k35).sz = 3 from rfl, Nat.mul_one, Nat.add_zero] at hx36_1)
                              have hf36_1 := hfr36 1
                              (try simp only [show (k35).sz = 3 from rfl, Nat.mul_one, Nat.add_zero] at hf36_1)
                              clear hcl36 hcc36 hfr36 hM36
                              go_wp2_with (first | ((with_reducible refine gate_store (t := 3) (p := 61) rfl ?_); refine store_event (t := 3) (p := 61) (v := ?vo_w37) (w1 := (wr.setCell ⟨go34, ((ji31) : Int).toNat * 3 + 1, none⟩ (.int .i64 (wrap64 (((rd_T35 x5_2 (ji31)).f1) + 1))))) ?hg ?ho ?hn ?hr ?_; (case ho => rfl); (case hg => rfl); (case hn => rfl); (case hr => first | (go_simp; done) | (go_simp; rfl)); intro w37 hw; have hg : wr.grownBy w37 (some go34) := (by rw [hw]; exact HP36.2); have hp_ : Kd.R k35 35 w37 w.heap.size (fun _ => True) (.slice (some ⟨go34, 0, none⟩) x5_2.length co35) y221 := (by rw [hw, Ny221.out]; exact HP36.1); clear HP36; have n0_ := Aside0.mk (hp_); have n1_ := Aside0.mk ((by rw [hw]; exact below_set (HB.out) GB34.out : Below w.heap.size w w37)); clear HO_5; clear HB; have HO_5 := n0_; have HB := n1_; clear n0_ n1_; clear hg hw hp_))
                              go_roundg k2
                              case measure => have := HK1.out; have := HK2.out; omega
                              case rel => exact ⟨(y221), (wrap64 (x7_2 + 1)), (by first | rfl | (simp; done) | (simp [*]; done)), H', ⟨by have := HK1.out; have := HK2.out; omega⟩, ⟨by (with_reducible repeat (first | apply Kd.R_alloc | apply Kd.R_drewN | apply Kd.R_drew)); exact HO_5.out⟩, ⟨by repeat (first | (with_reducible first | exact HB.out | apply below_alloc | apply pw_below_drewN | apply below_drew1) | exact HB.out)⟩⟩
                            · rw [if_neg c33] at H
                              exact absurd H (by simp)
                          · rw [if_neg c32] at H
                            exact absurd H (by simp)
                  · rw [if_neg c9] at H
                    have c9b0 : decide (x7_2 < ((rd_T35 l0 x6_1).f1)) = false := decide_eq_false c9
                    clear c9
                    have H' := Aside0.mk H
                    clear H
                    have p206 : 0 ≤ (x6_1 : Int) := of_decide_eq_true (by first | (with_reducible assumption) | assumption)
                    have q206 : x6_1 < (l0.length : Int) := of_decide_eq_true (by first | (with_reducible assumption) | assumption)
                    obtain ⟨ad206, e206, hx206_0, hx206_1, hx206_2⟩ := at_T35 HR0.out x6_1 p206 q206
                    cases e206
                    replace hx206_0 := (HB.out.cell (World.block_lt_of_cell? w _ hx206_0)).trans hx206_0
                    replace hx206_1 := (HB.out.cell (World.block_lt_of_cell? w _ hx206_1)).trans hx206_1
                    replace hx206_2 := (HB.out.cell (World.block_lt_of_cell? w _ hx206_2)).trans hx206_2
                    replace p206 := eq_true p206
                    replace q206 := eq_true q206
                    go_wp2
                    go_roundg k2
                    case measure => have := HK1.out; have := HK2.out; omega
                    case rel => exact ⟨(x5_2), (wrap64 (x6_1 + 1)), (by first | rfl | (simp; done) | (simp [*]; done)), H', ⟨by have := HK1.out; have := HK2.out; omega⟩, ⟨by (with_reducible repeat (first | apply Kd.R_alloc | apply Kd.R_drewN | apply Kd.R_drew)); exact HO_5.out⟩, ⟨by repeat (first | (with_reducible first | exact HB.out | apply below_alloc | apply pw_below_drewN | apply below_drew1) | exact HB.out)⟩⟩
                · rw [if_neg c8] at H
                  exact absurd H (by simp)
              · rw [if_neg c7] at H
                exact absurd H (by simp)
        · rw [if_neg c6] at H
          have c6b0 : decide (x6_1 < (l0.length : Int)) = false := decide_eq_false c6
          clear c6
          obtain rfl := Option.some.inj H
          go_wp2
          go_ret
          exact ⟨_, by first | rfl | (simp [errW_none, errW_some] <;> rfl) | (simp [*, errW_none, errW_some] <;> rfl), by (with_reducible repeat (first | apply Kd.R_alloc | apply Kd.R_drewN | apply Kd.R_drew)); exact HO_5.out, by repeat (first | (with_reducible first | exact HB.out | apply below_alloc | apply pw_below_drewN | apply below_drew1) | exact HB.out)⟩
  · rw [if_neg c3] at H
    exact absurd H (by simp)

/-! ### ferruleref13_Moves: function 25 -/
def ferruleref13_Moves.l0 : Nat → Int → Int → List (S35) → List (S35) → Int → Option ((List (S35)))
  | 0, _, _, _, _, _ => none
  | k + 1, x1, x2, x7, x8, x9 => if x9 < (x8.length : Int) then (if 0 ≤ x9 then (if x2 = 0 then (none) else (if (wrap64 (Int.tdiv ((rd_T35 x8 x9).f2) x2)) = x1 then (if x7.length < 5864062014805 then (ferruleref13_Moves.l0 k x1 x2 (x7 ++ [(⟨(rd_T35 x8 x9).f0, (rd_T35 x8 x9).f1, (rd_T35 x8 x9).f2⟩ : S35)]) x8 (wrap64 (x9 + 1))) else (none)) else (ferruleref13_Moves.l0 k x1 x2 x7 x8 (wrap64 (x9 + 1))))) else (none)) else (some x7)
def ferruleref13_Moves.f (k : Nat) (l0 : List (S35)) (a1 : Int) (a2 : Int) : Option ((List (S35))) := if 0 ≤ 11728124029610 then ((ferruleref13_Split.f k l0 a2).bind fun t225 => (ferruleref13_Moves.l0 k a1 a2 (List.replicate 0 z35) t225 0)) else (none)
theorem ferruleref13_Moves.mono_l : ∀ k, (∀ y0 y1 y2 y3 y4, LeO (ferruleref13_Moves.l0 k y0 y1 y2 y3 y4) (ferruleref13_Moves.l0 (k + 1) y0 y1 y2 y3 y4))
  | 0 => fun _ _ _ _ _ r h => by simp [ferruleref13_Moves.l0] at h
  | k + 1 => by
    have ih0 := ferruleref13_Moves.mono_l k
    · intro y0 y1 y2 y3 y4
      unfold ferruleref13_Moves.l0
      repeat' first
      | (with_reducible exact ih0 _ _ _ _ _)
      | (with_reducible exact ferruleref13_Split.mono _ _ _)
      | (with_reducible exact LeO.refl _)
      | (with_reducible exact LeO.none _)
      | (with_reducible refine LeO.ite ?_ ?_)
      | (with_reducible refine LeO.bind ?_ (fun _ => ?_))
      | exact ih0 _ _ _ _ _
      | exact ferruleref13_Split.mono _ _ _
      | exact LeO.none _
      | refine LeO.ite ?_ ?_
      | refine LeO.bind ?_ (fun _ => ?_)
theorem ferruleref13_Moves.mono : ∀ a0 a1 a2 k, LeO (ferruleref13_Moves.f k a0 a1 a2) (ferruleref13_Moves.f (k + 1) a0 a1 a2) := by
  intro a0 a1 a2 k
  have ih0 := ferruleref13_Moves.mono_l k
  unfold ferruleref13_Moves.f
  repeat' first
      | (with_reducible exact ih0 _ _ _ _ _)
      | (with_reducible exact ferruleref13_Split.mono _ _ _)
      | (with_reducible exact LeO.refl _)
      | (with_reducible exact LeO.none _)
      | (with_reducible refine LeO.ite ?_ ?_)
      | (with_reducible refine LeO.bind ?_ (fun _ => ?_))
      | exact ih0 _ _ _ _ _
      | exact ferruleref13_Split.mono _ _ _
      | exact LeO.none _
      | refine LeO.ite ?_ ?_
      | refine LeO.bind ?_ (fun _ => ?_)
set_option maxHeartbeats 8000000 in
set_option maxRecDepth 100000 in
theorem ferruleref13_Moves.calls (k : Nat) (A0 : Option Addr) (c0 : Nat) (l0 : List (S35)) (a1 : Int) (a2 : Int) (r : List (S35)) (w : World) (hr0 : Kd.C k35 w A0 l0.length l0) (hc0 : l0.length ≤ c0) (h : ferruleref13_Moves.f k l0 a1 a2 = some r) :
    Calls Try.prog 25 #[.slice A0 l0.length c0, .int .i64 a1, .int .i64 a2] w fun e w' => ∃ v0_ : Value, e = .returned (v0_) ∧ Kd.R k35 35 w' w.heap.size (fun _ => True) v0_ r ∧ Below w.heap.size w w' := by
  have hu35 := Try.underlying35
  have HR0 := Aside0.mk hr0
  have HC0 := Aside0.mk hc0
  clear hr0 hc0
  have HB := Aside0.mk (Below.refl w.heap.size w)
  have H : (if 0 ≤ 11728124029610 then ((ferruleref13_Split.f k l0 a2).bind fun t225 => (ferruleref13_Moves.l0 k a1 a2 (List.replicate 0 z35) t225 0)) else (none)) = some r := h
  clear h
  by_cases c4 : 0 ≤ 11728124029610
  · rw [if_pos c4] at H
    have c4b0 := eq_true c4
    have c4b1 : decide (0 ≤ 11728124029610) = true := decide_eq_true c4
    clear c4
    obtain ⟨y222, hy222⟩ : ∃ y_ : List (S35), y_ = (List.replicate 0 z35) := ⟨_, rfl⟩
    replace H : ((ferruleref13_Split.f k l0 a2).bind fun t225 => (ferruleref13_Moves.l0 k a1 a2 y222 t225 0)) = some r := by first | (rw [hy222]; with_reducible exact H) | (have H2_ := (Option.bind_some _ _).symm.trans H; rw [hy222]; with_reducible exact H2_) | (have H2_ := (Option.bind_some _ _).symm.trans H; with_reducible exact H2_) | with_reducible exact H | (rw [hy222]; exact H) | exact H
    have Ny222 := Aside0.mk hy222
    clear hy222
    replace H := Option.bind_eq_some_iff.mp H
    obtain ⟨t225, A50, H⟩ := H
    replace H : (ferruleref13_Moves.l0 k a1 a2 y222 t225 0) = some r := H
    have A5 := Aside0.mk A50
    clear A50
    have H' := Aside0.mk H
    clear H
    go_enter Try.func25, Try.ntmps25
    go_wp2_with (first | ((with_reducible refine gate_dst (N := 10) rfl ?_); refine Kd.R_make k35 _ 35 rfl (N := 10) rfl 27 _ _ rfl 0 rfl rfl Try.underlying27 (.agg #[(.int .i64 0), (.int .i64 0), (.int .i64 0)]) 24 info35 rfl (by decide) (by omega) z35 (ok := fun _ => True) (okp := fun _ => True) (k35_mkM _ _ _ z35 ) (fun _ hk => hk) trivial (by omega) (by omega) (Below.refl _ _) (Nat.le_refl _) ?_; intro v223 w6 ho7 hb hg_ hnew_; clear hg_ hnew_; (first | rw [← Ny222.out] at ho7 | (simp only [Int.reduceToNat] at ho7; rw [← Ny222.out] at ho7)); have n0_ := Aside0.mk (Kd.R_lower ho7 (below_size (by repeat (first | (with_reducible first | exact HB.out | apply below_alloc | apply pw_below_drewN | apply below_drew1) | exact HB.out)))); have n1_ := Aside0.mk (below_step (by repeat (first | (with_reducible first | exact HB.out | apply below_alloc | apply pw_below_drewN | apply below_drew1) | exact HB.out)) hb); clear HB; have HO224 := n0_; have HB := n1_; clear n0_ n1_; clear hb ho7) | ((with_reducible refine gate_callee (f := 24) rfl ?_); refine goesL_ (some 13) rfl rfl Try.func24 (by kernel_rfl) rfl #[.slice A0 l0.length c0, .int .i64 a2] rfl (by (try simp only [List.map_toArray, List.map_cons, List.map_nil]); first | done | rfl | (simp only [List.length_drop, List.length_take]; rfl)) ?_; (with_reducible refine (ferruleref13_Split.calls k _ _ l0 a2 t225 _ ?side1 ?side2 A5.out).mono ?_); (case side1 => repeat (first | exact (Kd.C_below HR0.out HB.out) | (with_reducible refine Kd.C_alloc ?_ _) | (with_reducible refine Kd.C_drewN ?_ _) | (with_reducible refine Kd.C_drew ?_))); (case side2 => exact HC0.out); rintro e w8 ⟨v226, rfl, ho0, hb⟩; refine ⟨_, rfl, ?_⟩; have n0_ := Aside0.mk (Kd.R_elder' (by (with_reducible repeat (first | apply Kd.R_alloc | apply Kd.R_drewN | apply Kd.R_drew)); exact HO224.out) (Kd.R_base ho0) hb); have n1_ := Aside0.mk (Kd.R_lower (Kd.R_new' ho0 (Kd.R_lt (by (with_reducible repeat (first | apply Kd.R_alloc | apply Kd.R_drewN | apply Kd.R_drew)); exact HO224.out))) (below_size (by repeat (first | (with_reducible first | exact HB.out | apply below_alloc | apply pw_below_drewN | apply below_drew1) | exact HB.out)))); have n2_ := Aside0.mk (below_step (by repeat (first | (with_reducible first | exact HB.out | apply below_alloc | apply pw_below_drewN | apply below_drew1) | exact HB.out)) hb); clear HO224; clear HB; have HO224 := n0_; have HO227 := n1_; have HB := n2_; clear n0_ n1_ n2_; (try clear hb); (try clear hb2); (try clear hk); (try clear hi); (try clear ho0)))
    go_loopg [7, 9] k (fun kq v7 v9 w' => ∃ (x7_1 : List (S35)) (x9_1 : Int), v9 = .int .i64 x9_1 ∧ Aside0 (ferruleref13_Moves.l0 kq a1 a2 x7_1 t225 x9_1 = some r) ∧ Aside0 (kq ≤ k) ∧ Aside0 (Kd.R k35 35 w' w.heap.size (fun k_ => some k_ ≠ (v226 : Value).ownBlock) v7 x7_1) ∧ Aside0 (Kd.R k35 35 w' w.heap.size (fun k_ => some k_ ≠ (v7 : Value).ownBlock) v226 t225) ∧ Aside0 (Below w.heap.size w w'))
    case atStart => exact ⟨(y222), (0), (by first | rfl | (simp; done) | (simp [*]; done)), H', ⟨Nat.le_refl _⟩, ⟨by (with_reducible repeat (first | apply Kd.R_alloc | apply Kd.R_drewN | apply Kd.R_drew)); exact Kd.R_mono HO224.out (fun _ hk => hk.2)⟩, ⟨by (with_reducible repeat (first | apply Kd.R_alloc | apply Kd.R_drewN | apply Kd.R_drew)); exact Kd.R_mono HO227.out (fun _ hk => hk.2)⟩, ⟨by repeat (first | (with_reducible first | exact HB.out | apply below_alloc | apply pw_below_drewN | apply below_drew1) | exact HB.out)⟩⟩
    case round =>
      clear H'
      try clear c2
      try clear p2
      try clear c4
      try clear c4b0
      try clear c4b1
      obtain ⟨x7_1, x9_1, rfl, HA, HK1, HO_7, HO_8, HB⟩ := hrel
      cases gk with
      | zero => exact absurd HA.out (by simp [ferruleref13_Moves.l0])
      | succ k1 =>
        have H := HA.out
        clear HA
        simp only [ferruleref13_Moves.l0] at H
        by_cases c9 : x9_1 < (t225.length : Int)
        · rw [if_pos c9] at H
          have c9b0 : decide (x9_1 < (t225.length : Int)) = true := decide_eq_true c9
          clear c9
          by_cases c10 : 0 ≤ x9_1
          · rw [if_pos c10] at H
            have c10b0 : decide (0 ≤ x9_1) = true := decide_eq_true c10
            clear c10
            by_cases c11 : a2 = 0
            · rw [if_pos c11] at H
              exact absurd H (by simp)
            · rw [if_neg c11] at H
              have c11b0 : (a2 == 0) = false := beq_eq_false_iff_ne.mpr c11
              have c11b1 : (a2 != 0) = true := bne_iff_ne.mpr c11
              by_cases c12 : (wrap64 (Int.tdiv ((rd_T35 t225 x9_1).f2) a2)) = a1
              · rw [if_pos c12] at H
                have c12b0 : ((wrap64 (Int.tdiv ((rd_T35 t225 x9_1).f2) a2)) == a1) = true := beq_iff_eq.mpr c12
                have c12b1 : ((wrap64 (Int.tdiv ((rd_T35 t225 x9_1).f2) a2)) != a1) = false := bne_eq_false_iff_eq.mpr c12
                clear c12
                by_cases c13 : x7_1.length < 5864062014805
                · rw [if_pos c13] at H
                  have LMc13 := Aside0.mk c13
                  clear c13
                  obtain ⟨y230, hy230⟩ : ∃ y_ : List (S35), y_ = (x7_1 ++ [(⟨(rd_T35 t225 x9_1).f0, (rd_T35 t225 x9_1).f1, (rd_T35 t225 x9_1).f2⟩ : S35)]) := ⟨_, rfl⟩
                  replace H : (ferruleref13_Moves.l0 k1 a1 a2 y230 t225 (wrap64 (x9_1 + 1))) = some r := by first | (rw [hy230]; with_reducible exact H) | (have H2_ := (Option.bind_some _ _).symm.trans H; rw [hy230]; with_reducible exact H2_) | (have H2_ := (Option.bind_some _ _).symm.trans H; with_reducible exact H2_) | with_reducible exact H | (rw [hy230]; exact H) | exact H
                  have Ny230 := Aside0.mk hy230
                  clear hy230
                  have H' := Aside0.mk H
                  clear H
                  obtain ⟨Ao14, co14, eo14⟩ := Kd.R_slice HO_8.out
                  subst eo14
                  have p228 : 0 ≤ (x9_1 : Int) := of_decide_eq_true (by first | (with_reducible assumption) | assumption)
                  have q228 : x9_1 < (t225.length : Int) := of_decide_eq_true (by first | (with_reducible assumption) | assumption)
                  obtain ⟨ad228, e228, hx228_0, hx228_1, hx228_2⟩ := at_T35 (Kd.R_reads' HO_8.out).2.2 x9_1 p228 q228
                  cases e228
                  replace p228 := eq_true p228
                  replace q228 := eq_true q228
                  have p229 : 0 ≤ (x9_1 : Int) := of_decide_eq_true (by first | (with_reducible assumption) | assumption)
                  have q229 : x9_1 < (t225.length : Int) := of_decide_eq_true (by first | (with_reducible assumption) | assumption)
                  obtain ⟨ad229, e229, hx229_0, hx229_1, hx229_2⟩ := at_T35 (Kd.R_reads' HO_8.out).2.2 x9_1 p229 q229
                  obtain rfl : ad228 = ad229 := (by injection e229)
                  replace p229 := eq_true p229
                  replace q229 := eq_true q229
                  go_wp2_with (first | ((with_reducible refine gate_builtin (b := .append) (xs := #[.tmp 29, .tmp 34]) rfl ?_); at_builtin; refine Kd.R_append k35 (w0 := w) w.heap.size rfl (.tmp 29) (.tmp 34) 27 35 (.agg #[(.int .i64 0), (.int .i64 0), (.int .i64 0)]) 24 rfl Try.underlying27 info35 rfl (by decide) (by omega) u7 x7_1 (⟨(rd_T35 t225 x9_1).f0, (rd_T35 t225 x9_1).f1, (rd_T35 t225 x9_1).f2⟩ : S35) [.int .i64 ((rd_T35 t225 x9_1).f0), .int .i64 ((rd_T35 t225 x9_1).f1), .int .i64 ((rd_T35 t225 x9_1).f2)] (fun k_ => some k_ ≠ (.slice (some ad228) t225.length co14 : Value).ownBlock) (fun _ => False) rfl rfl ?aP (fun _ hk => hk.elim) ?aF ?aO ?aB ?aS ?aL ?_; (case aP => exact k35_mkM _ _ _ (⟨(rd_T35 t225 x9_1).f0, (rd_T35 t225 x9_1).f1, (rd_T35 t225 x9_1).f2⟩ : S35)); (case aB => exact (by repeat (first | (with_reducible first | exact HB.out | apply below_alloc | apply pw_below_drewN | apply below_drew1) | exact HB.out))); (case aF => exact (fun k_ hk => Kd.fresh' (Kd.R_lt (by (with_reducible repeat (first | apply Kd.R_alloc | apply Kd.R_drewN | apply Kd.R_drew)); exact HO_8.out)) k_ hk)); (case aO => exact (by (with_reducible repeat (first | apply Kd.R_alloc | apply Kd.R_drewN | apply Kd.R_drew)); exact HO_7.out)); (case aS => exact (below_size (by repeat (first | (with_reducible first | exact HB.out | apply below_alloc | apply pw_below_drewN | apply below_drew1) | exact HB.out)))); (case aL => have := LMc13.out; omega); intro v231 w15 ho hb hg hat; rw [← Ny230.out] at ho; have n0_ := Aside0.mk (Kd.R_after (ok := (fun _ => True)) (by (with_reducible repeat (first | apply Kd.R_alloc | apply Kd.R_drewN | apply Kd.R_drew)); exact Kd.R_mono HO_8.out (fun _ hk => ⟨trivial, hk⟩)) hg hat); have n1_ := Aside0.mk (hb); have n2_ := Aside0.mk (ho); clear HO_8; clear HB; clear HO_7; have HO_8 := n0_; have HB := n1_; have HO232 := n2_; clear n0_ n1_ n2_; clear ho hb hg hat))
                  go_roundg k1
                  case measure => have := HK1.out; omega
                  case rel => exact ⟨(y230), (wrap64 (x9_1 + 1)), (by first | rfl | (simp; done) | (simp [*]; done)), H', ⟨by have := HK1.out; omega⟩, ⟨by (with_reducible repeat (first | apply Kd.R_alloc | apply Kd.R_drewN | apply Kd.R_drew)); exact HO232.out⟩, ⟨by (with_reducible repeat (first | apply Kd.R_alloc | apply Kd.R_drewN | apply Kd.R_drew)); exact Kd.R_mono HO_8.out (fun _ hk => hk.2)⟩, ⟨by repeat (first | (with_reducible first | exact HB.out | apply below_alloc | apply pw_below_drewN | apply below_drew1) | exact HB.out)⟩⟩
                · rw [if_neg c13] at H
                  exact absurd H (by simp)
              · rw [if_neg c12] at H
                have c12b0 : ((wrap64 (Int.tdiv ((rd_T35 t225 x9_1).f2) a2)) == a1) = false := beq_eq_false_iff_ne.mpr c12
                have c12b1 : ((wrap64 (Int.tdiv ((rd_T35 t225 x9_1).f2) a2)) != a1) = true := bne_iff_ne.mpr c12
                have H' := Aside0.mk H
                clear H
                obtain ⟨Ao16, co16, eo16⟩ := Kd.R_slice HO_8.out
                subst eo16
                have p228 : 0 ≤ (x9_1 : Int) := of_decide_eq_true (by first | (with_reducible assumption) | assumption)
                have q228 : x9_1 < (t225.length : Int) := of_decide_eq_true (by first | (with_reducible assumption) | assumption)
                obtain ⟨ad228, e228, hx228_0, hx228_1, hx228_2⟩ := at_T35 (Kd.R_reads' HO_8.out).2.2 x9_1 p228 q228
                cases e228
                replace p228 := eq_true p228
                replace q228 := eq_true q228
                go_wp2
                go_roundg k1
                case measure => have := HK1.out; omega
                case rel => exact ⟨(x7_1), (wrap64 (x9_1 + 1)), (by first | rfl | (simp; done) | (simp [*]; done)), H', ⟨by have := HK1.out; omega⟩, ⟨by (with_reducible repeat (first | apply Kd.R_alloc | apply Kd.R_drewN | apply Kd.R_drew)); exact HO_7.out⟩, ⟨by (with_reducible repeat (first | apply Kd.R_alloc | apply Kd.R_drewN | apply Kd.R_drew)); exact HO_8.out⟩, ⟨by repeat (first | (with_reducible first | exact HB.out | apply below_alloc | apply pw_below_drewN | apply below_drew1) | exact HB.out)⟩⟩
          · rw [if_neg c10] at H
            exact absurd H (by simp)
        · rw [if_neg c9] at H
          have c9b0 : decide (x9_1 < (t225.length : Int)) = false := decide_eq_false c9
          clear c9
          obtain rfl := Option.some.inj H
          obtain ⟨Ao17, co17, eo17⟩ := Kd.R_slice HO_8.out
          subst eo17
          go_wp2
          go_ret
          exact ⟨_, by first | rfl | (simp [errW_none, errW_some] <;> rfl) | (simp [*, errW_none, errW_some] <;> rfl), by (with_reducible repeat (first | apply Kd.R_alloc | apply Kd.R_drewN | apply Kd.R_drew)); exact Kd.R_mono HO_7.out (fun _ hk => trivial), by repeat (first | (with_reducible first | exact HB.out | apply below_alloc | apply pw_below_drewN | apply below_drew1) | exact HB.out)⟩
  · rw [if_neg c4] at H
    exact absurd H (by simp)

end Go.Proofs.Ytnogokemjcfaoaa.PBlocksRuns
