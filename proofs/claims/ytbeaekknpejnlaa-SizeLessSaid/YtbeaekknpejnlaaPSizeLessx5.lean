-- By a program of this session (NOTES.md). Lean checks it.
import Derived.Test.YtbeaekknpejnlaaPSizeLessx0
import Derived.Test.YtbeaekknpejnlaaPSizeLessx2
import Derived.Test.YtbeaekknpejnlaaPSizeLessx3
import Derived.Test.YtbeaekknpejnlaaPSizeLessx4
namespace Go.Proofs.Ytbeaekknpejnlaa.PSizeLess
open Go.RowKit Go.Proofs.YtbeaekknpejnlaaW.PrintWords Go.Proofs.YtbeaekknpejnlaaW.PrintLast Go.Proofs.YtbeaekknpejnlaaW.PrintMore
attribute [local go_sem] max2_int min2_int max_two min_two max_three min_three max_four min_four   -- for this text's walks alone
set_option linter.unusedVariables false
set_option linter.unusedSimpArgs false

attribute [local go_sem] sc_drewN
/-! ### ferrulelaw16_SizeLess: function 6 -/
mutual
def ferrulelaw16_SizeLess.j0 : Nat → Int → Int → Bool → Int → Int → Int → Int → Int → Int → Bool → Option (Bool)
  | 0, _, _, _, _, _, _, _, _, _, _ => none
  | k + 1, x1, x2, x63, x221000, x221001, x221002, x221003, x221004, x221005, x221006 => if x63 = true then (some false) else (if x1 < 2 then (ferrulelaw16_SizeLess.j1 k x1 x2 true x221000 x221001 x221002 x221003 x221004 x221005 x221006) else (if x1 > x221002 then (ferrulelaw16_SizeLess.j1 k x1 x2 true x221000 x221001 x221002 x221003 x221004 x221005 x221006) else (if x2 < 1 then (ferrulelaw16_SizeLess.j1 k x1 x2 true x221000 x221001 x221002 x221003 x221004 x221005 x221006) else (ferrulelaw16_SizeLess.j1 k x1 x2 (decide (x2 > 1000)) x221000 x221001 x221002 x221003 x221004 x221005 x221006))))
def ferrulelaw16_SizeLess.j1 : Nat → Int → Int → Bool → Int → Int → Int → Int → Int → Int → Bool → Option (Bool)
  | 0, _, _, _, _, _, _, _, _, _, _ => none
  | k + 1, x1, x2, x79, x221000, x221001, x221002, x221003, x221004, x221005, x221006 => if x79 = true then (some true) else ((size_CallPrograms.f k x221000 x221001 x221002 x221003 x221004 x221005 x221006 x1 x2).bind fun bt236 => ((size_CallPrograms.f k x221000 x221001 x221002 x221003 x221004 x221005 x221006 (wrap64 (x1 - 1)) x2).bind fun bt238 => ((size_CallPrograms.f k x221000 x221001 x221002 x221003 x221004 x221005 x221006 x1 (wrap64 (x2 - 1))).bind fun bt240 => (if bt236.2 = 0 then (if bt238.2 = 0 then (if bt240.2 = 0 then (if bt236.1 > bt238.1 then (if bt236.1 > bt240.1 then (some (decide (bt238.1 ≥ x1))) else (some false)) else (some false)) else (some false)) else (some false)) else (some false)))))
end
def ferrulelaw16_SizeLess.f (k : Nat) (a0_0 : Int) (a0_1 : Int) (a0_2 : Int) (a0_3 : Int) (a0_4 : Int) (a0_5 : Int) (a0_6 : Bool) (a1 : Int) (a2 : Int) : Option (Bool) := (ferrulelaw16_awake.f k).bind fun t221 => (if t221 = true then ((size_Of.f k a0_0 a0_1 a0_2 a0_3 a0_4 a0_5 a0_6).bind fun bt222 => ((size_Good.f k a0_0 a0_1 a0_2 a0_3 a0_4 a0_5 a0_6).bind fun t235 => (if t235 = true then (if bt222.2.2.2.2.2.2.2.2.2.2.2 = 0 then (if bt222.2.2.2.2.2.2.2.2.2.2.1 ≥ (wrap64 (a0_0 * a0_1)) then (ferrulelaw16_SizeLess.j0 k a1 a2 true a0_0 a0_1 a0_2 a0_3 a0_4 a0_5 a0_6) else (if (wrap64 (3 * a0_2)) > (wrap64 (a0_0 * a0_1)) then (ferrulelaw16_SizeLess.j0 k a1 a2 true a0_0 a0_1 a0_2 a0_3 a0_4 a0_5 a0_6) else (if bt222.2.2.2.2.2.2.2.2.2.1 ≥ a0_4 then (ferrulelaw16_SizeLess.j0 k a1 a2 true a0_0 a0_1 a0_2 a0_3 a0_4 a0_5 a0_6) else (if bt222.2.1 < 1 then (ferrulelaw16_SizeLess.j0 k a1 a2 true a0_0 a0_1 a0_2 a0_3 a0_4 a0_5 a0_6) else (ferrulelaw16_SizeLess.j0 k a1 a2 (decide (bt222.2.2.2.2.1 < 1)) a0_0 a0_1 a0_2 a0_3 a0_4 a0_5 a0_6))))) else (ferrulelaw16_SizeLess.j0 k a1 a2 true a0_0 a0_1 a0_2 a0_3 a0_4 a0_5 a0_6)) else (some true)))) else (some false))
theorem ferrulelaw16_SizeLess.mono_l : ∀ k, (∀ y0 y1 y2 y3 y4 y5 y6 y7 y8 y9, LeO (ferrulelaw16_SizeLess.j0 k y0 y1 y2 y3 y4 y5 y6 y7 y8 y9) (ferrulelaw16_SizeLess.j0 (k + 1) y0 y1 y2 y3 y4 y5 y6 y7 y8 y9)) ∧ (∀ y0 y1 y2 y3 y4 y5 y6 y7 y8 y9, LeO (ferrulelaw16_SizeLess.j1 k y0 y1 y2 y3 y4 y5 y6 y7 y8 y9) (ferrulelaw16_SizeLess.j1 (k + 1) y0 y1 y2 y3 y4 y5 y6 y7 y8 y9))
  | 0 => ⟨fun _ _ _ _ _ _ _ _ _ _ r h => by simp [ferrulelaw16_SizeLess.j0] at h, fun _ _ _ _ _ _ _ _ _ _ r h => by simp [ferrulelaw16_SizeLess.j1] at h⟩
  | k + 1 => by
    obtain ⟨ih0, ih1⟩ := ferrulelaw16_SizeLess.mono_l k
    refine ⟨?_, ?_⟩
    · intro y0 y1 y2 y3 y4 y5 y6 y7 y8 y9
      unfold ferrulelaw16_SizeLess.j0
      repeat' first
      | (with_reducible exact ih0 _ _ _ _ _ _ _ _ _ _)
      | (with_reducible exact ih1 _ _ _ _ _ _ _ _ _ _)
      | (with_reducible exact ferrulelaw16_awake.mono _)
      | (with_reducible exact size_CallPrograms.mono _ _ _ _ _ _ _ _ _ _)
      | (with_reducible exact size_Good.mono _ _ _ _ _ _ _ _)
      | (with_reducible exact size_Of.mono _ _ _ _ _ _ _ _)
      | (with_reducible exact LeO.refl _)
      | (with_reducible exact LeO.none _)
      | (with_reducible refine LeO.ite ?_ ?_)
      | (with_reducible refine LeO.bind ?_ (fun _ => ?_))
      | exact ih0 _ _ _ _ _ _ _ _ _ _
      | exact ih1 _ _ _ _ _ _ _ _ _ _
      | exact ferrulelaw16_awake.mono _
      | exact size_CallPrograms.mono _ _ _ _ _ _ _ _ _ _
      | exact size_Good.mono _ _ _ _ _ _ _ _
      | exact size_Of.mono _ _ _ _ _ _ _ _
      | exact LeO.none _
      | refine LeO.ite ?_ ?_
      | refine LeO.bind ?_ (fun _ => ?_)
    · intro y0 y1 y2 y3 y4 y5 y6 y7 y8 y9
      unfold ferrulelaw16_SizeLess.j1
      repeat' first
      | (with_reducible exact ih0 _ _ _ _ _ _ _ _ _ _)
      | (with_reducible exact ih1 _ _ _ _ _ _ _ _ _ _)
      | (with_reducible exact ferrulelaw16_awake.mono _)
      | (with_reducible exact size_CallPrograms.mono _ _ _ _ _ _ _ _ _ _)
      | (with_reducible exact size_Good.mono _ _ _ _ _ _ _ _)
      | (with_reducible exact size_Of.mono _ _ _ _ _ _ _ _)
      | (with_reducible exact LeO.refl _)
      | (with_reducible exact LeO.none _)
      | (with_reducible refine LeO.ite ?_ ?_)
      | (with_reducible refine LeO.bind ?_ (fun _ => ?_))
      | exact ih0 _ _ _ _ _ _ _ _ _ _
      | exact ih1 _ _ _ _ _ _ _ _ _ _
      | exact ferrulelaw16_awake.mono _
      | exact size_CallPrograms.mono _ _ _ _ _ _ _ _ _ _
      | exact size_Good.mono _ _ _ _ _ _ _ _
      | exact size_Of.mono _ _ _ _ _ _ _ _
      | exact LeO.none _
      | refine LeO.ite ?_ ?_
      | refine LeO.bind ?_ (fun _ => ?_)
theorem ferrulelaw16_SizeLess.mono : ∀ a0 a1 a2 a3 a4 a5 a6 a7 a8 k, LeO (ferrulelaw16_SizeLess.f k a0 a1 a2 a3 a4 a5 a6 a7 a8) (ferrulelaw16_SizeLess.f (k + 1) a0 a1 a2 a3 a4 a5 a6 a7 a8) := by
  intro a0 a1 a2 a3 a4 a5 a6 a7 a8 k
  obtain ⟨ih0, ih1⟩ := ferrulelaw16_SizeLess.mono_l k
  unfold ferrulelaw16_SizeLess.f
  repeat' first
      | (with_reducible exact ih0 _ _ _ _ _ _ _ _ _ _)
      | (with_reducible exact ih1 _ _ _ _ _ _ _ _ _ _)
      | (with_reducible exact ferrulelaw16_awake.mono _)
      | (with_reducible exact size_CallPrograms.mono _ _ _ _ _ _ _ _ _ _)
      | (with_reducible exact size_Good.mono _ _ _ _ _ _ _ _)
      | (with_reducible exact size_Of.mono _ _ _ _ _ _ _ _)
      | (with_reducible exact LeO.refl _)
      | (with_reducible exact LeO.none _)
      | (with_reducible refine LeO.ite ?_ ?_)
      | (with_reducible refine LeO.bind ?_ (fun _ => ?_))
      | exact ih0 _ _ _ _ _ _ _ _ _ _
      | exact ih1 _ _ _ _ _ _ _ _ _ _
      | exact ferrulelaw16_awake.mono _
      | exact size_CallPrograms.mono _ _ _ _ _ _ _ _ _ _
      | exact size_Good.mono _ _ _ _ _ _ _ _
      | exact size_Of.mono _ _ _ _ _ _ _ _
      | exact LeO.none _
      | refine LeO.ite ?_ ?_
      | refine LeO.bind ?_ (fun _ => ?_)
set_option maxHeartbeats 8000000 in
set_option maxRecDepth 100000 in
theorem ferrulelaw16_SizeLess.calls (k : Nat) (a0_0 : Int) (a0_1 : Int) (a0_2 : Int) (a0_3 : Int) (a0_4 : Int) (a0_5 : Int) (a0_6 : Bool) (a1 : Int) (a2 : Int) (r : Bool) (w : World) (h : ferrulelaw16_SizeLess.f k a0_0 a0_1 a0_2 a0_3 a0_4 a0_5 a0_6 a1 a2 = some r) :
    Calls Try.prog 6 #[.agg #[.int .i64 a0_0, .int .i64 a0_1, .int .i64 a0_2, .int .i64 a0_3, .int .i64 a0_4, .int .i64 a0_5, .bool a0_6], .int .i64 a1, .int .i64 a2] w fun e w' => e = .returned (.bool r) ∧ Below w.heap.size w w' := by
  have hu29 := Try.underlying29
  have hu24 := Try.underlying24
  have HB := Aside0.mk (Below.refl w.heap.size w)
  have H : ((ferrulelaw16_awake.f k).bind fun t221 => (if t221 = true then ((size_Of.f k a0_0 a0_1 a0_2 a0_3 a0_4 a0_5 a0_6).bind fun bt222 => ((size_Good.f k a0_0 a0_1 a0_2 a0_3 a0_4 a0_5 a0_6).bind fun t235 => (if t235 = true then (if bt222.2.2.2.2.2.2.2.2.2.2.2 = 0 then (if bt222.2.2.2.2.2.2.2.2.2.2.1 ≥ (wrap64 (a0_0 * a0_1)) then (ferrulelaw16_SizeLess.j0 k a1 a2 true a0_0 a0_1 a0_2 a0_3 a0_4 a0_5 a0_6) else (if (wrap64 (3 * a0_2)) > (wrap64 (a0_0 * a0_1)) then (ferrulelaw16_SizeLess.j0 k a1 a2 true a0_0 a0_1 a0_2 a0_3 a0_4 a0_5 a0_6) else (if bt222.2.2.2.2.2.2.2.2.2.1 ≥ a0_4 then (ferrulelaw16_SizeLess.j0 k a1 a2 true a0_0 a0_1 a0_2 a0_3 a0_4 a0_5 a0_6) else (if bt222.2.1 < 1 then (ferrulelaw16_SizeLess.j0 k a1 a2 true a0_0 a0_1 a0_2 a0_3 a0_4 a0_5 a0_6) else (ferrulelaw16_SizeLess.j0 k a1 a2 (decide (bt222.2.2.2.2.1 < 1)) a0_0 a0_1 a0_2 a0_3 a0_4 a0_5 a0_6))))) else (ferrulelaw16_SizeLess.j0 k a1 a2 true a0_0 a0_1 a0_2 a0_3 a0_4 a0_5 a0_6)) else (some true)))) else (some false))) = some r := h
  clear h
  replace H := Option.bind_eq_some_iff.mp H
  obtain ⟨t221, A40, H⟩ := H
  replace H : (if t221 = true then ((size_Of.f k a0_0 a0_1 a0_2 a0_3 a0_4 a0_5 a0_6).bind fun bt222 => ((size_Good.f k a0_0 a0_1 a0_2 a0_3 a0_4 a0_5 a0_6).bind fun t235 => (if t235 = true then (if bt222.2.2.2.2.2.2.2.2.2.2.2 = 0 then (if bt222.2.2.2.2.2.2.2.2.2.2.1 ≥ (wrap64 (a0_0 * a0_1)) then (ferrulelaw16_SizeLess.j0 k a1 a2 true a0_0 a0_1 a0_2 a0_3 a0_4 a0_5 a0_6) else (if (wrap64 (3 * a0_2)) > (wrap64 (a0_0 * a0_1)) then (ferrulelaw16_SizeLess.j0 k a1 a2 true a0_0 a0_1 a0_2 a0_3 a0_4 a0_5 a0_6) else (if bt222.2.2.2.2.2.2.2.2.2.1 ≥ a0_4 then (ferrulelaw16_SizeLess.j0 k a1 a2 true a0_0 a0_1 a0_2 a0_3 a0_4 a0_5 a0_6) else (if bt222.2.1 < 1 then (ferrulelaw16_SizeLess.j0 k a1 a2 true a0_0 a0_1 a0_2 a0_3 a0_4 a0_5 a0_6) else (ferrulelaw16_SizeLess.j0 k a1 a2 (decide (bt222.2.2.2.2.1 < 1)) a0_0 a0_1 a0_2 a0_3 a0_4 a0_5 a0_6))))) else (ferrulelaw16_SizeLess.j0 k a1 a2 true a0_0 a0_1 a0_2 a0_3 a0_4 a0_5 a0_6)) else (some true)))) else (some false)) = some r := H
  have A4 := Aside0.mk A40
  clear A40
  by_cases c5 : t221 = true
  · subst c5
    have H1 : ((size_Of.f k a0_0 a0_1 a0_2 a0_3 a0_4 a0_5 a0_6).bind fun bt222 => ((size_Good.f k a0_0 a0_1 a0_2 a0_3 a0_4 a0_5 a0_6).bind fun t235 => (if t235 = true then (if bt222.2.2.2.2.2.2.2.2.2.2.2 = 0 then (if bt222.2.2.2.2.2.2.2.2.2.2.1 ≥ (wrap64 (a0_0 * a0_1)) then (ferrulelaw16_SizeLess.j0 k a1 a2 true a0_0 a0_1 a0_2 a0_3 a0_4 a0_5 a0_6) else (if (wrap64 (3 * a0_2)) > (wrap64 (a0_0 * a0_1)) then (ferrulelaw16_SizeLess.j0 k a1 a2 true a0_0 a0_1 a0_2 a0_3 a0_4 a0_5 a0_6) else (if bt222.2.2.2.2.2.2.2.2.2.1 ≥ a0_4 then (ferrulelaw16_SizeLess.j0 k a1 a2 true a0_0 a0_1 a0_2 a0_3 a0_4 a0_5 a0_6) else (if bt222.2.1 < 1 then (ferrulelaw16_SizeLess.j0 k a1 a2 true a0_0 a0_1 a0_2 a0_3 a0_4 a0_5 a0_6) else (ferrulelaw16_SizeLess.j0 k a1 a2 (decide (bt222.2.2.2.2.1 < 1)) a0_0 a0_1 a0_2 a0_3 a0_4 a0_5 a0_6))))) else (ferrulelaw16_SizeLess.j0 k a1 a2 true a0_0 a0_1 a0_2 a0_3 a0_4 a0_5 a0_6)) else (some true)))) = some r := by rw [if_pos rfl] at H; exact H
    clear H
    have H := H1
    clear H1
    replace H := Option.bind_eq_some_iff.mp H
    obtain ⟨⟨t222, t223, t224, t225, t226, t227, t228, t229, t230, t231, t232, t233⟩, A60, H⟩ := H
    replace H : ((size_Good.f k a0_0 a0_1 a0_2 a0_3 a0_4 a0_5 a0_6).bind fun t235 => (if t235 = true then (if t233 = 0 then (if t232 ≥ (wrap64 (a0_0 * a0_1)) then (ferrulelaw16_SizeLess.j0 k a1 a2 true a0_0 a0_1 a0_2 a0_3 a0_4 a0_5 a0_6) else (if (wrap64 (3 * a0_2)) > (wrap64 (a0_0 * a0_1)) then (ferrulelaw16_SizeLess.j0 k a1 a2 true a0_0 a0_1 a0_2 a0_3 a0_4 a0_5 a0_6) else (if t231 ≥ a0_4 then (ferrulelaw16_SizeLess.j0 k a1 a2 true a0_0 a0_1 a0_2 a0_3 a0_4 a0_5 a0_6) else (if t223 < 1 then (ferrulelaw16_SizeLess.j0 k a1 a2 true a0_0 a0_1 a0_2 a0_3 a0_4 a0_5 a0_6) else (ferrulelaw16_SizeLess.j0 k a1 a2 (decide (t226 < 1)) a0_0 a0_1 a0_2 a0_3 a0_4 a0_5 a0_6))))) else (ferrulelaw16_SizeLess.j0 k a1 a2 true a0_0 a0_1 a0_2 a0_3 a0_4 a0_5 a0_6)) else (some true))) = some r := H
    have A6 := Aside0.mk A60
    clear A60
    replace H := Option.bind_eq_some_iff.mp H
    obtain ⟨t235, A70, H⟩ := H
    replace H : (if t235 = true then (if t233 = 0 then (if t232 ≥ (wrap64 (a0_0 * a0_1)) then (ferrulelaw16_SizeLess.j0 k a1 a2 true a0_0 a0_1 a0_2 a0_3 a0_4 a0_5 a0_6) else (if (wrap64 (3 * a0_2)) > (wrap64 (a0_0 * a0_1)) then (ferrulelaw16_SizeLess.j0 k a1 a2 true a0_0 a0_1 a0_2 a0_3 a0_4 a0_5 a0_6) else (if t231 ≥ a0_4 then (ferrulelaw16_SizeLess.j0 k a1 a2 true a0_0 a0_1 a0_2 a0_3 a0_4 a0_5 a0_6) else (if t223 < 1 then (ferrulelaw16_SizeLess.j0 k a1 a2 true a0_0 a0_1 a0_2 a0_3 a0_4 a0_5 a0_6) else (ferrulelaw16_SizeLess.j0 k a1 a2 (decide (t226 < 1)) a0_0 a0_1 a0_2 a0_3 a0_4 a0_5 a0_6))))) else (ferrulelaw16_SizeLess.j0 k a1 a2 true a0_0 a0_1 a0_2 a0_3 a0_4 a0_5 a0_6)) else (some true)) = some r := H
    have A7 := Aside0.mk A70
    clear A70
    by_cases c8 : t235 = true
    · subst c8
      have H1 : (if t233 = 0 then (if t232 ≥ (wrap64 (a0_0 * a0_1)) then (ferrulelaw16_SizeLess.j0 k a1 a2 true a0_0 a0_1 a0_2 a0_3 a0_4 a0_5 a0_6) else (if (wrap64 (3 * a0_2)) > (wrap64 (a0_0 * a0_1)) then (ferrulelaw16_SizeLess.j0 k a1 a2 true a0_0 a0_1 a0_2 a0_3 a0_4 a0_5 a0_6) else (if t231 ≥ a0_4 then (ferrulelaw16_SizeLess.j0 k a1 a2 true a0_0 a0_1 a0_2 a0_3 a0_4 a0_5 a0_6) else (if t223 < 1 then (ferrulelaw16_SizeLess.j0 k a1 a2 true a0_0 a0_1 a0_2 a0_3 a0_4 a0_5 a0_6) else (ferrulelaw16_SizeLess.j0 k a1 a2 (decide (t226 < 1)) a0_0 a0_1 a0_2 a0_3 a0_4 a0_5 a0_6))))) else (ferrulelaw16_SizeLess.j0 k a1 a2 true a0_0 a0_1 a0_2 a0_3 a0_4 a0_5 a0_6)) = some r := by rw [if_pos rfl] at H; exact H
      clear H
      have H := H1
      clear H1
      have HC9 := Aside0.mk H
      clear H
      go_enter Try.func6, Try.ntmps6
      go_upto_region 6 with (first | ((with_reducible refine gate_dst (N := 3) rfl ?_); refine box_event ?hg (N := 3) ?hd (cs := #[.int .i64 a0_0, .int .i64 a0_1, .int .i64 a0_2, .int .i64 a0_3, .int .i64 a0_4, .int .i64 a0_5, .bool a0_6]) (t := 29) ?hr ?_; (case hd => rfl); (case hg => rfl); (case hr => first | (go_simp; done) | (go_simp; rfl)); intro gb220 hg w10 hbox hb; have n0_ := Aside0.mk (below_step (by repeat (first | (with_reducible first | exact HB.out | apply below_alloc | apply pw_below_drewN | apply below_drew1) | exact HB.out)) hb); have n1_ := Aside0.mk (hbox); have n2_ := Aside0.mk ((by rw [hg]; exact (below_size (by repeat (first | (with_reducible first | exact HB.out | apply below_alloc | apply pw_below_drewN | apply below_drew1) | exact HB.out))) : w.heap.size ≤ gb220)); have n3_ := Aside0.mk ((by rw [hg]; exact (below_size (by repeat (first | (with_reducible first | exact HB.out | apply below_alloc | apply pw_below_drewN | apply below_drew1) | exact HB.out))) : w.heap.size ≤ gb220)); clear HB; have HB := n0_; have BK220 := n1_; have GW220 := n2_; have GE220 := n3_; clear n0_ n1_ n2_ n3_; clear hb hbox hg) | ((with_reducible refine gate_callee (f := 8) rfl ?_); refine goesL_ (some 14) rfl rfl Try.func8 (by kernel_rfl) rfl #[] rfl (by (try simp only [List.map_toArray, List.map_cons, List.map_nil]); first | done | rfl | (simp only [List.length_drop, List.length_take]; rfl)) ?_; (with_reducible refine (ferrulelaw16_awake.calls k  true _ A4.out).mono ?_); rintro e w11 ⟨rfl, hb⟩; refine ⟨_, rfl, ?_⟩; have n0_ := Aside0.mk (blk_below (g := gb220) (o := .cells #[.int .i64 a0_0, .int .i64 a0_1, .int .i64 a0_2, .int .i64 a0_3, .int .i64 a0_4, .int .i64 a0_5, .bool a0_6] 29 (0, 0)) (by (with_reducible repeat (first | refine blk_drewN ?_ _ | refine blk_drew ?_ | refine blk_alloc ?_ _)); exact BK220.out) hb); have n1_ := Aside0.mk (below_step (by repeat (first | (with_reducible first | exact HB.out | apply below_alloc | apply pw_below_drewN | apply below_drew1 | refine below_set ?_ GE220.out) | exact HB.out)) hb); clear BK220; clear HB; have BK220 := n0_; have HB := n1_; clear n0_ n1_; (try clear hb); (try clear hb2); (try clear hk); (try clear hi); have hcz12_0 : w11.cell? ⟨gb220, 0, none⟩ = some (.int .i64 a0_0) := (blk_cell BK220.out 0).trans rfl; have hcz12_1 : w11.cell? ⟨gb220, 1, none⟩ = some (.int .i64 a0_1) := (blk_cell BK220.out 1).trans rfl; have hcz12_2 : w11.cell? ⟨gb220, 2, none⟩ = some (.int .i64 a0_2) := (blk_cell BK220.out 2).trans rfl; have hcz12_3 : w11.cell? ⟨gb220, 3, none⟩ = some (.int .i64 a0_3) := (blk_cell BK220.out 3).trans rfl; have hcz12_4 : w11.cell? ⟨gb220, 4, none⟩ = some (.int .i64 a0_4) := (blk_cell BK220.out 4).trans rfl; have hcz12_5 : w11.cell? ⟨gb220, 5, none⟩ = some (.int .i64 a0_5) := (blk_cell BK220.out 5).trans rfl; have hcz12_6 : w11.cell? ⟨gb220, 6, none⟩ = some (.bool a0_6) := (blk_cell BK220.out 6).trans rfl; have hfz12_0 := blk_frozen BK220.out 0; have hfz12_1 := blk_frozen BK220.out 1; have hfz12_2 := blk_frozen BK220.out 2; have hfz12_3 := blk_frozen BK220.out 3; have hfz12_4 := blk_frozen BK220.out 4; have hfz12_5 := blk_frozen BK220.out 5; have hfz12_6 := blk_frozen BK220.out 6) | ((with_reducible refine gate_callee (f := 9) rfl ?_); refine goesL_ (some 18) rfl rfl Try.func9 (by kernel_rfl) rfl #[.agg #[.int .i64 a0_0, .int .i64 a0_1, .int .i64 a0_2, .int .i64 a0_3, .int .i64 a0_4, .int .i64 a0_5, .bool a0_6]] rfl (by (try simp only [List.map_toArray, List.map_cons, List.map_nil]); first | done | rfl | (simp only [List.length_drop, List.length_take]; rfl)) ?_; (with_reducible refine (size_Of.calls k a0_0 a0_1 a0_2 a0_3 a0_4 a0_5 a0_6 t222 t223 t224 t225 t226 t227 t228 t229 t230 t231 t232 t233 _ A6.out).mono ?_); rintro e w13 ⟨rfl, hb⟩; refine ⟨_, rfl, ?_⟩; have n0_ := Aside0.mk (blk_below (g := gb220) (o := .cells #[.int .i64 a0_0, .int .i64 a0_1, .int .i64 a0_2, .int .i64 a0_3, .int .i64 a0_4, .int .i64 a0_5, .bool a0_6] 29 (0, 0)) (by (with_reducible repeat (first | refine blk_drewN ?_ _ | refine blk_drew ?_ | refine blk_alloc ?_ _)); exact BK220.out) hb); have n1_ := Aside0.mk (below_step (by repeat (first | (with_reducible first | exact HB.out | apply below_alloc | apply pw_below_drewN | apply below_drew1 | refine below_set ?_ GE220.out) | exact HB.out)) hb); clear BK220; clear HB; have BK220 := n0_; have HB := n1_; clear n0_ n1_; (try clear hb); (try clear hb2); (try clear hk); (try clear hi)) | ((with_reducible refine gate_dst (N := 7) rfl ?_); refine box_event ?hg (N := 7) ?hd (cs := #[.int .i64 0, .int .i64 0, .int .i64 0, .int .i64 0, .int .i64 0, .int .i64 0, .int .i64 0, .int .i64 0, .int .i64 0, .int .i64 0, .int .i64 0]) (t := 24) ?hr ?_; (case hd => rfl); (case hg => rfl); (case hr => first | (go_simp; done) | (go_simp; rfl)); intro gb234 hg w14 hbox hb; have n0_ := Aside0.mk (blk_below (g := gb220) (o := .cells #[.int .i64 a0_0, .int .i64 a0_1, .int .i64 a0_2, .int .i64 a0_3, .int .i64 a0_4, .int .i64 a0_5, .bool a0_6] 29 (0, 0)) (by (with_reducible repeat (first | refine blk_drewN ?_ _ | refine blk_drew ?_ | refine blk_alloc ?_ _)); exact BK220.out) hb); have n1_ := Aside0.mk (below_step (by repeat (first | (with_reducible first | exact HB.out | apply below_alloc | apply pw_below_drewN | apply below_drew1 | refine below_set ?_ GE220.out) | exact HB.out)) hb); have n2_ := Aside0.mk (hbox); have n3_ := Aside0.mk ((by rw [hg]; exact (below_size (by repeat (first | (with_reducible first | exact HB.out | apply below_alloc | apply pw_below_drewN | apply below_drew1 | refine below_set ?_ GE220.out) | exact HB.out))) : w.heap.size ≤ gb234)); have n4_ := Aside0.mk ((by rw [hg]; exact (below_size (by repeat (first | (with_reducible first | exact HB.out | apply below_alloc | apply pw_below_drewN | apply below_drew1 | refine below_set ?_ GE220.out) | exact HB.out))) : w.heap.size ≤ gb234)); have n5_ := Aside0.mk ((by rw [hg]; exact Nat.ne_of_lt (blk_lt (g := gb220) (o := .cells #[.int .i64 a0_0, .int .i64 a0_1, .int .i64 a0_2, .int .i64 a0_3, .int .i64 a0_4, .int .i64 a0_5, .bool a0_6] 29 (0, 0)) (by (with_reducible repeat (first | refine blk_drewN ?_ _ | refine blk_drew ?_ | refine blk_alloc ?_ _)); exact BK220.out)) : gb220 ≠ gb234)); have n6_ := Aside0.mk ((by rw [hg]; exact Nat.ne_of_gt (blk_lt (g := gb220) (o := .cells #[.int .i64 a0_0, .int .i64 a0_1, .int .i64 a0_2, .int .i64 a0_3, .int .i64 a0_4, .int .i64 a0_5, .bool a0_6] 29 (0, 0)) (by (with_reducible repeat (first | refine blk_drewN ?_ _ | refine blk_drew ?_ | refine blk_alloc ?_ _)); exact BK220.out)) : gb234 ≠ gb220)); clear BK220; clear HB; have BK220 := n0_; have HB := n1_; have BK234 := n2_; have GW234 := n3_; have GE234 := n4_; have NB220_234 := n5_; have NB234_220 := n6_; clear n0_ n1_ n2_ n3_ n4_ n5_ n6_; clear hb hbox hg; have hnb15 := NB234_220.out; have hnc15 := NB220_234.out; have hcz16_0 : w14.cell? ⟨gb234, 0, none⟩ = some (.int .i64 0) := (blk_cell BK234.out 0).trans rfl; have hcz16_1 : w14.cell? ⟨gb234, 1, none⟩ = some (.int .i64 0) := (blk_cell BK234.out 1).trans rfl; have hcz16_2 : w14.cell? ⟨gb234, 2, none⟩ = some (.int .i64 0) := (blk_cell BK234.out 2).trans rfl; have hcz16_3 : w14.cell? ⟨gb234, 3, none⟩ = some (.int .i64 0) := (blk_cell BK234.out 3).trans rfl; have hcz16_4 : w14.cell? ⟨gb234, 4, none⟩ = some (.int .i64 0) := (blk_cell BK234.out 4).trans rfl; have hcz16_5 : w14.cell? ⟨gb234, 5, none⟩ = some (.int .i64 0) := (blk_cell BK234.out 5).trans rfl; have hcz16_6 : w14.cell? ⟨gb234, 6, none⟩ = some (.int .i64 0) := (blk_cell BK234.out 6).trans rfl; have hcz16_7 : w14.cell? ⟨gb234, 7, none⟩ = some (.int .i64 0) := (blk_cell BK234.out 7).trans rfl; have hcz16_8 : w14.cell? ⟨gb234, 8, none⟩ = some (.int .i64 0) := (blk_cell BK234.out 8).trans rfl; have hcz16_9 : w14.cell? ⟨gb234, 9, none⟩ = some (.int .i64 0) := (blk_cell BK234.out 9).trans rfl; have hcz16_10 : w14.cell? ⟨gb234, 10, none⟩ = some (.int .i64 0) := (blk_cell BK234.out 10).trans rfl; have hfz16_0 := blk_frozen BK234.out 0; have hfz16_1 := blk_frozen BK234.out 1; have hfz16_2 := blk_frozen BK234.out 2; have hfz16_3 := blk_frozen BK234.out 3; have hfz16_4 := blk_frozen BK234.out 4; have hfz16_5 := blk_frozen BK234.out 5; have hfz16_6 := blk_frozen BK234.out 6; have hfz16_7 := blk_frozen BK234.out 7; have hfz16_8 := blk_frozen BK234.out 8; have hfz16_9 := blk_frozen BK234.out 9; have hfz16_10 := blk_frozen BK234.out 10; have hcz17_0 : w14.cell? ⟨gb220, 0, none⟩ = some (.int .i64 a0_0) := (blk_cell BK220.out 0).trans rfl; have hcz17_1 : w14.cell? ⟨gb220, 1, none⟩ = some (.int .i64 a0_1) := (blk_cell BK220.out 1).trans rfl; have hcz17_2 : w14.cell? ⟨gb220, 2, none⟩ = some (.int .i64 a0_2) := (blk_cell BK220.out 2).trans rfl; have hcz17_3 : w14.cell? ⟨gb220, 3, none⟩ = some (.int .i64 a0_3) := (blk_cell BK220.out 3).trans rfl; have hcz17_4 : w14.cell? ⟨gb220, 4, none⟩ = some (.int .i64 a0_4) := (blk_cell BK220.out 4).trans rfl; have hcz17_5 : w14.cell? ⟨gb220, 5, none⟩ = some (.int .i64 a0_5) := (blk_cell BK220.out 5).trans rfl; have hcz17_6 : w14.cell? ⟨gb220, 6, none⟩ = some (.bool a0_6) := (blk_cell BK220.out 6).trans rfl; have hfz17_0 := blk_frozen BK220.out 0; have hfz17_1 := blk_frozen BK220.out 1; have hfz17_2 := blk_frozen BK220.out 2; have hfz17_3 := blk_frozen BK220.out 3; have hfz17_4 := blk_frozen BK220.out 4; have hfz17_5 := blk_frozen BK220.out 5; have hfz17_6 := blk_frozen BK220.out 6) | ((with_reducible refine gate_callee (f := 12) rfl ?_); refine goesL_ (some 22) rfl rfl Try.func12 (by kernel_rfl) rfl #[.agg #[.int .i64 a0_0, .int .i64 a0_1, .int .i64 a0_2, .int .i64 a0_3, .int .i64 a0_4, .int .i64 a0_5, .bool a0_6]] rfl (by (try simp only [List.map_toArray, List.map_cons, List.map_nil]); first | done | rfl | (simp only [List.length_drop, List.length_take]; rfl)) ?_; (with_reducible refine (size_Good.calls k a0_0 a0_1 a0_2 a0_3 a0_4 a0_5 a0_6 true _ A7.out).mono ?_); rintro e w18 ⟨rfl, hb⟩; refine ⟨_, rfl, ?_⟩; have n0_ := Aside0.mk (blk_below (g := gb220) (o := .cells #[.int .i64 a0_0, .int .i64 a0_1, .int .i64 a0_2, .int .i64 a0_3, .int .i64 a0_4, .int .i64 a0_5, .bool a0_6] 29 (0, 0)) (by (with_reducible repeat (first | refine blk_drewN ?_ _ | refine blk_drew ?_ | refine blk_alloc ?_ _)); refine blk_far ?_ NB220_234.out _; (with_reducible repeat (first | refine blk_drewN ?_ _ | refine blk_drew ?_ | refine blk_alloc ?_ _)); refine blk_far ?_ NB220_234.out _; (with_reducible repeat (first | refine blk_drewN ?_ _ | refine blk_drew ?_ | refine blk_alloc ?_ _)); refine blk_far ?_ NB220_234.out _; (with_reducible repeat (first | refine blk_drewN ?_ _ | refine blk_drew ?_ | refine blk_alloc ?_ _)); refine blk_far ?_ NB220_234.out _; (with_reducible repeat (first | refine blk_drewN ?_ _ | refine blk_drew ?_ | refine blk_alloc ?_ _)); refine blk_far ?_ NB220_234.out _; (with_reducible repeat (first | refine blk_drewN ?_ _ | refine blk_drew ?_ | refine blk_alloc ?_ _)); refine blk_far ?_ NB220_234.out _; (with_reducible repeat (first | refine blk_drewN ?_ _ | refine blk_drew ?_ | refine blk_alloc ?_ _)); refine blk_far ?_ NB220_234.out _; (with_reducible repeat (first | refine blk_drewN ?_ _ | refine blk_drew ?_ | refine blk_alloc ?_ _)); refine blk_far ?_ NB220_234.out _; (with_reducible repeat (first | refine blk_drewN ?_ _ | refine blk_drew ?_ | refine blk_alloc ?_ _)); refine blk_far ?_ NB220_234.out _; (with_reducible repeat (first | refine blk_drewN ?_ _ | refine blk_drew ?_ | refine blk_alloc ?_ _)); refine blk_far ?_ NB220_234.out _; (with_reducible repeat (first | refine blk_drewN ?_ _ | refine blk_drew ?_ | refine blk_alloc ?_ _)); refine blk_far ?_ NB220_234.out _; (with_reducible repeat (first | refine blk_drewN ?_ _ | refine blk_drew ?_ | refine blk_alloc ?_ _)); exact BK220.out) hb); have n1_ := Aside0.mk (blk_below (g := gb234) (o := .cells #[.int .i64 t222, .int .i64 t223, .int .i64 t224, .int .i64 t225, .int .i64 t226, .int .i64 t227, .int .i64 t228, .int .i64 t229, .int .i64 t230, .int .i64 t231, .int .i64 t232] 24 (0, 0)) (by (with_reducible repeat (first | refine blk_drewN ?_ _ | refine blk_drew ?_ | refine blk_alloc ?_ _)); refine blk_put (cs := #[.int .i64 t222, .int .i64 t223, .int .i64 t224, .int .i64 t225, .int .i64 t226, .int .i64 t227, .int .i64 t228, .int .i64 t229, .int .i64 t230, .int .i64 t231, .int .i64 0]) ?_ 10 _ rfl; (with_reducible repeat (first | refine blk_drewN ?_ _ | refine blk_drew ?_ | refine blk_alloc ?_ _)); refine blk_put (cs := #[.int .i64 t222, .int .i64 t223, .int .i64 t224, .int .i64 t225, .int .i64 t226, .int .i64 t227, .int .i64 t228, .int .i64 t229, .int .i64 t230, .int .i64 0, .int .i64 0]) ?_ 9 _ rfl; (with_reducible repeat (first | refine blk_drewN ?_ _ | refine blk_drew ?_ | refine blk_alloc ?_ _)); refine blk_put (cs := #[.int .i64 t222, .int .i64 t223, .int .i64 t224, .int .i64 t225, .int .i64 t226, .int .i64 t227, .int .i64 t228, .int .i64 t229, .int .i64 0, .int .i64 0, .int .i64 0]) ?_ 8 _ rfl; (with_reducible repeat (first | refine blk_drewN ?_ _ | refine blk_drew ?_ | refine blk_alloc ?_ _)); refine blk_put (cs := #[.int .i64 t222, .int .i64 t223, .int .i64 t224, .int .i64 t225, .int .i64 t226, .int .i64 t227, .int .i64 t228, .int .i64 0, .int .i64 0, .int .i64 0, .int .i64 0]) ?_ 7 _ rfl; (with_reducible repeat (first | refine blk_drewN ?_ _ | refine blk_drew ?_ | refine blk_alloc ?_ _)); refine blk_put (cs := #[.int .i64 t222, .int .i64 t223, .int .i64 t224, .int .i64 t225, .int .i64 t226, .int .i64 t227, .int .i64 0, .int .i64 0, .int .i64 0, .int .i64 0, .int .i64 0]) ?_ 6 _ rfl; (with_reducible repeat (first | refine blk_drewN ?_ _ | refine blk_drew ?_ | refine blk_alloc ?_ _)); refine blk_put (cs := #[.int .i64 t222, .int .i64 t223, .int .i64 t224, .int .i64 t225, .int .i64 t226, .int .i64 0, .int .i64 0, .int .i64 0, .int .i64 0, .int .i64 0, .int .i64 0]) ?_ 5 _ rfl; (with_reducible repeat (first | refine blk_drewN ?_ _ | refine blk_drew ?_ | refine blk_alloc ?_ _)); refine blk_put (cs := #[.int .i64 t222, .int .i64 t223, .int .i64 t224, .int .i64 t225, .int .i64 0, .int .i64 0, .int .i64 0, .int .i64 0, .int .i64 0, .int .i64 0, .int .i64 0]) ?_ 4 _ rfl; (with_reducible repeat (first | refine blk_drewN ?_ _ | refine blk_drew ?_ | refine blk_alloc ?_ _)); refine blk_put (cs := #[.int .i64 t222, .int .i64 t223, .int .i64 t224, .int .i64 0, .int .i64 0, .int .i64 0, .int .i64 0, .int .i64 0, .int .i64 0, .int .i64 0, .int .i64 0]) ?_ 3 _ rfl; (with_reducible repeat (first | refine blk_drewN ?_ _ | refine blk_drew ?_ | refine blk_alloc ?_ _)); refine blk_put (cs := #[.int .i64 t222, .int .i64 t223, .int .i64 0, .int .i64 0, .int .i64 0, .int .i64 0, .int .i64 0, .int .i64 0, .int .i64 0, .int .i64 0, .int .i64 0]) ?_ 2 _ rfl; (with_reducible repeat (first | refine blk_drewN ?_ _ | refine blk_drew ?_ | refine blk_alloc ?_ _)); refine blk_put (cs := #[.int .i64 t222, .int .i64 0, .int .i64 0, .int .i64 0, .int .i64 0, .int .i64 0, .int .i64 0, .int .i64 0, .int .i64 0, .int .i64 0, .int .i64 0]) ?_ 1 _ rfl; (with_reducible repeat (first | refine blk_drewN ?_ _ | refine blk_drew ?_ | refine blk_alloc ?_ _)); refine blk_put (cs := #[.int .i64 0, .int .i64 0, .int .i64 0, .int .i64 0, .int .i64 0, .int .i64 0, .int .i64 0, .int .i64 0, .int .i64 0, .int .i64 0, .int .i64 0]) ?_ 0 _ rfl; (with_reducible repeat (first | refine blk_drewN ?_ _ | refine blk_drew ?_ | refine blk_alloc ?_ _)); exact BK234.out) hb); have n2_ := Aside0.mk (below_step (by repeat (first | (with_reducible first | exact HB.out | apply below_alloc | apply pw_below_drewN | apply below_drew1 | refine below_set ?_ GE220.out | refine below_set ?_ GE234.out) | exact HB.out)) hb); clear BK220; clear BK234; clear HB; have BK220 := n0_; have BK234 := n1_; have HB := n2_; clear n0_ n1_ n2_; (try clear hb); (try clear hb2); (try clear hk); (try clear hi)))
      (try simp only [Act.put, List.setIfInBounds_toArray, List.set_cons_zero, List.set_cons_succ])
      go_cut [63] (fun v63 wc => ∃ (kq : Nat) (x63_8 : Bool), v63 = .bool x63_8 ∧ Aside0 (ferrulelaw16_SizeLess.j0 kq a1 a2 x63_8 a0_0 a0_1 a0_2 a0_3 a0_4 a0_5 a0_6 = some r) ∧ Aside0 (kq ≤ k) ∧ Aside0 (wc.heap[gb220]? = some (.cells #[.int .i64 a0_0, .int .i64 a0_1, .int .i64 a0_2, .int .i64 a0_3, .int .i64 a0_4, .int .i64 a0_5, .bool a0_6] 29 (0, 0))) ∧ Aside0 (wc.heap[gb234]? = some (.cells #[.int .i64 t222, .int .i64 t223, .int .i64 t224, .int .i64 t225, .int .i64 t226, .int .i64 t227, .int .i64 t228, .int .i64 t229, .int .i64 t230, .int .i64 t231, .int .i64 t232] 24 (0, 0))) ∧ Aside0 (Below w.heap.size w wc))
      case first =>
        have H := HC9.out
        clear HC9
        by_cases c19 : t233 = 0
        · rw [if_pos c19] at H
          have c19b0 : (t233 == 0) = true := beq_iff_eq.mpr c19
          have c19b1 : (t233 != 0) = false := bne_eq_false_iff_eq.mpr c19
          clear c19
          (first | rw [c19b0] | (simp only [i64_w, i32_w]; rw [c19b0]) | skip)
          by_cases c20 : t232 ≥ (wrap64 (a0_0 * a0_1))
          · rw [if_pos c20] at H
            have c20b0 : decide ((wrap64 (a0_0 * a0_1)) ≤ t232) = true := decide_eq_true c20
            clear c20
            have H' := Aside0.mk H
            clear H
            have hnb21 := NB234_220.out
            have hnc21 := NB220_234.out
            have hcz22_0 : w18.cell? ⟨gb234, 0, none⟩ = some (.int .i64 t222) := (blk_cell BK234.out 0).trans rfl
            have hcz22_1 : w18.cell? ⟨gb234, 1, none⟩ = some (.int .i64 t223) := (blk_cell BK234.out 1).trans rfl
            have hcz22_2 : w18.cell? ⟨gb234, 2, none⟩ = some (.int .i64 t224) := (blk_cell BK234.out 2).trans rfl
            have hcz22_3 : w18.cell? ⟨gb234, 3, none⟩ = some (.int .i64 t225) := (blk_cell BK234.out 3).trans rfl
            have hcz22_4 : w18.cell? ⟨gb234, 4, none⟩ = some (.int .i64 t226) := (blk_cell BK234.out 4).trans rfl
            have hcz22_5 : w18.cell? ⟨gb234, 5, none⟩ = some (.int .i64 t227) := (blk_cell BK234.out 5).trans rfl
            have hcz22_6 : w18.cell? ⟨gb234, 6, none⟩ = some (.int .i64 t228) := (blk_cell BK234.out 6).trans rfl
            have hcz22_7 : w18.cell? ⟨gb234, 7, none⟩ = some (.int .i64 t229) := (blk_cell BK234.out 7).trans rfl
            have hcz22_8 : w18.cell? ⟨gb234, 8, none⟩ = some (.int .i64 t230) := (blk_cell BK234.out 8).trans rfl
            have hcz22_9 : w18.cell? ⟨gb234, 9, none⟩ = some (.int .i64 t231) := (blk_cell BK234.out 9).trans rfl
            have hcz22_10 : w18.cell? ⟨gb234, 10, none⟩ = some (.int .i64 t232) := (blk_cell BK234.out 10).trans rfl
            have hfz22_0 := blk_frozen BK234.out 0
            have hfz22_1 := blk_frozen BK234.out 1
            have hfz22_2 := blk_frozen BK234.out 2
            have hfz22_3 := blk_frozen BK234.out 3
            have hfz22_4 := blk_frozen BK234.out 4
            have hfz22_5 := blk_frozen BK234.out 5
            have hfz22_6 := blk_frozen BK234.out 6
            have hfz22_7 := blk_frozen BK234.out 7
            have hfz22_8 := blk_frozen BK234.out 8
            have hfz22_9 := blk_frozen BK234.out 9
            have hfz22_10 := blk_frozen BK234.out 10
            have hcz23_0 : w18.cell? ⟨gb220, 0, none⟩ = some (.int .i64 a0_0) := (blk_cell BK220.out 0).trans rfl
            have hcz23_1 : w18.cell? ⟨gb220, 1, none⟩ = some (.int .i64 a0_1) := (blk_cell BK220.out 1).trans rfl
            have hcz23_2 : w18.cell? ⟨gb220, 2, none⟩ = some (.int .i64 a0_2) := (blk_cell BK220.out 2).trans rfl
            have hcz23_3 : w18.cell? ⟨gb220, 3, none⟩ = some (.int .i64 a0_3) := (blk_cell BK220.out 3).trans rfl
            have hcz23_4 : w18.cell? ⟨gb220, 4, none⟩ = some (.int .i64 a0_4) := (blk_cell BK220.out 4).trans rfl
            have hcz23_5 : w18.cell? ⟨gb220, 5, none⟩ = some (.int .i64 a0_5) := (blk_cell BK220.out 5).trans rfl
            have hcz23_6 : w18.cell? ⟨gb220, 6, none⟩ = some (.bool a0_6) := (blk_cell BK220.out 6).trans rfl
            have hfz23_0 := blk_frozen BK220.out 0
            have hfz23_1 := blk_frozen BK220.out 1
            have hfz23_2 := blk_frozen BK220.out 2
            have hfz23_3 := blk_frozen BK220.out 3
            have hfz23_4 := blk_frozen BK220.out 4
            have hfz23_5 := blk_frozen BK220.out 5
            have hfz23_6 := blk_frozen BK220.out 6
            go_wp2
            go_meet
            case rel => exact ⟨_, (true), (by first | rfl | (simp; done) | (simp [*]; done)), H', ⟨by first | omega | exact Nat.le_refl _⟩, ⟨by (with_reducible repeat (first | refine blk_drewN ?_ _ | refine blk_drew ?_ | refine blk_alloc ?_ _)); exact BK220.out⟩, ⟨by (with_reducible repeat (first | refine blk_drewN ?_ _ | refine blk_drew ?_ | refine blk_alloc ?_ _)); exact BK234.out⟩, ⟨by repeat (first | (with_reducible first | exact HB.out | apply below_alloc | apply pw_below_drewN | apply below_drew1 | refine below_set ?_ GE220.out | refine below_set ?_ GE234.out) | exact HB.out)⟩⟩
          · rw [if_neg c20] at H
            have c20b0 : decide ((wrap64 (a0_0 * a0_1)) ≤ t232) = false := decide_eq_false c20
            clear c20
            by_cases c24 : (wrap64 (3 * a0_2)) > (wrap64 (a0_0 * a0_1))
            · rw [if_pos c24] at H
              have c24b0 : decide ((wrap64 (a0_0 * a0_1)) < (wrap64 (3 * a0_2))) = true := decide_eq_true c24
              clear c24
              have H' := Aside0.mk H
              clear H
              have hnb25 := NB234_220.out
              have hnc25 := NB220_234.out
              have hcz26_0 : w18.cell? ⟨gb234, 0, none⟩ = some (.int .i64 t222) := (blk_cell BK234.out 0).trans rfl
              have hcz26_1 : w18.cell? ⟨gb234, 1, none⟩ = some (.int .i64 t223) := (blk_cell BK234.out 1).trans rfl
              have hcz26_2 : w18.cell? ⟨gb234, 2, none⟩ = some (.int .i64 t224) := (blk_cell BK234.out 2).trans rfl
              have hcz26_3 : w18.cell? ⟨gb234, 3, none⟩ = some (.int .i64 t225) := (blk_cell BK234.out 3).trans rfl
              have hcz26_4 : w18.cell? ⟨gb234, 4, none⟩ = some (.int .i64 t226) := (blk_cell BK234.out 4).trans rfl
              have hcz26_5 : w18.cell? ⟨gb234, 5, none⟩ = some (.int .i64 t227) := (blk_cell BK234.out 5).trans rfl
              have hcz26_6 : w18.cell? ⟨gb234, 6, none⟩ = some (.int .i64 t228) := (blk_cell BK234.out 6).trans rfl
              have hcz26_7 : w18.cell? ⟨gb234, 7, none⟩ = some (.int .i64 t229) := (blk_cell BK234.out 7).trans rfl
              have hcz26_8 : w18.cell? ⟨gb234, 8, none⟩ = some (.int .i64 t230) := (blk_cell BK234.out 8).trans rfl
              have hcz26_9 : w18.cell? ⟨gb234, 9, none⟩ = some (.int .i64 t231) := (blk_cell BK234.out 9).trans rfl
              have hcz26_10 : w18.cell? ⟨gb234, 10, none⟩ = some (.int .i64 t232) := (blk_cell BK234.out 10).trans rfl
              have hfz26_0 := blk_frozen BK234.out 0
              have hfz26_1 := blk_frozen BK234.out 1
              have hfz26_2 := blk_frozen BK234.out 2
              have hfz26_3 := blk_frozen BK234.out 3
              have hfz26_4 := blk_frozen BK234.out 4
              have hfz26_5 := blk_frozen BK234.out 5
              have hfz26_6 := blk_frozen BK234.out 6
              have hfz26_7 := blk_frozen BK234.out 7
              have hfz26_8 := blk_frozen BK234.out 8
              have hfz26_9 := blk_frozen BK234.out 9
              have hfz26_10 := blk_frozen BK234.out 10
              have hcz27_0 : w18.cell? ⟨gb220, 0, none⟩ = some (.int .i64 a0_0) := (blk_cell BK220.out 0).trans rfl
              have hcz27_1 : w18.cell? ⟨gb220, 1, none⟩ = some (.int .i64 a0_1) := (blk_cell BK220.out 1).trans rfl
              have hcz27_2 : w18.cell? ⟨gb220, 2, none⟩ = some (.int .i64 a0_2) := (blk_cell BK220.out 2).trans rfl
              have hcz27_3 : w18.cell? ⟨gb220, 3, none⟩ = some (.int .i64 a0_3) := (blk_cell BK220.out 3).trans rfl
              have hcz27_4 : w18.cell? ⟨gb220, 4, none⟩ = some (.int .i64 a0_4) := (blk_cell BK220.out 4).trans rfl
              have hcz27_5 : w18.cell? ⟨gb220, 5, none⟩ = some (.int .i64 a0_5) := (blk_cell BK220.out 5).trans rfl
              have hcz27_6 : w18.cell? ⟨gb220, 6, none⟩ = some (.bool a0_6) := (blk_cell BK220.out 6).trans rfl
              have hfz27_0 := blk_frozen BK220.out 0
              have hfz27_1 := blk_frozen BK220.out 1
              have hfz27_2 := blk_frozen BK220.out 2
              have hfz27_3 := blk_frozen BK220.out 3
              have hfz27_4 := blk_frozen BK220.out 4
              have hfz27_5 := blk_frozen BK220.out 5
              have hfz27_6 := blk_frozen BK220.out 6
              go_wp2
              go_meet
              case rel => exact ⟨_, (true), (by first | rfl | (simp; done) | (simp [*]; done)), H', ⟨by first | omega | exact Nat.le_refl _⟩, ⟨by (with_reducible repeat (first | refine blk_drewN ?_ _ | refine blk_drew ?_ | refine blk_alloc ?_ _)); exact BK220.out⟩, ⟨by (with_reducible repeat (first | refine blk_drewN ?_ _ | refine blk_drew ?_ | refine blk_alloc ?_ _)); exact BK234.out⟩, ⟨by repeat (first | (with_reducible first | exact HB.out | apply below_alloc | apply pw_below_drewN | apply below_drew1 | refine below_set ?_ GE220.out | refine below_set ?_ GE234.out) | exact HB.out)⟩⟩
            · rw [if_neg c24] at H
              have c24b0 : decide ((wrap64 (a0_0 * a0_1)) < (wrap64 (3 * a0_2))) = false := decide_eq_false c24
              clear c24
              by_cases c28 : t231 ≥ a0_4
              · rw [if_pos c28] at H
                have c28b0 : decide (a0_4 ≤ t231) = true := decide_eq_true c28
                clear c28
                have H' := Aside0.mk H
                clear H
                have hnb29 := NB234_220.out
                have hnc29 := NB220_234.out
                have hcz30_0 : w18.cell? ⟨gb234, 0, none⟩ = some (.int .i64 t222) := (blk_cell BK234.out 0).trans rfl
                have hcz30_1 : w18.cell? ⟨gb234, 1, none⟩ = some (.int .i64 t223) := (blk_cell BK234.out 1).trans rfl
                have hcz30_2 : w18.cell? ⟨gb234, 2, none⟩ = some (.int .i64 t224) := (blk_cell BK234.out 2).trans rfl
                have hcz30_3 : w18.cell? ⟨gb234, 3, none⟩ = some (.int .i64 t225) := (blk_cell BK234.out 3).trans rfl
                have hcz30_4 : w18.cell? ⟨gb234, 4, none⟩ = some (.int .i64 t226) := (blk_cell BK234.out 4).trans rfl
                have hcz30_5 : w18.cell? ⟨gb234, 5, none⟩ = some (.int .i64 t227) := (blk_cell BK234.out 5).trans rfl
                have hcz30_6 : w18.cell? ⟨gb234, 6, none⟩ = some (.int .i64 t228) := (blk_cell BK234.out 6).trans rfl
                have hcz30_7 : w18.cell? ⟨gb234, 7, none⟩ = some (.int .i64 t229) := (blk_cell BK234.out 7).trans rfl
                have hcz30_8 : w18.cell? ⟨gb234, 8, none⟩ = some (.int .i64 t230) := (blk_cell BK234.out 8).trans rfl
                have hcz30_9 : w18.cell? ⟨gb234, 9, none⟩ = some (.int .i64 t231) := (blk_cell BK234.out 9).trans rfl
                have hcz30_10 : w18.cell? ⟨gb234, 10, none⟩ = some (.int .i64 t232) := (blk_cell BK234.out 10).trans rfl
                have hfz30_0 := blk_frozen BK234.out 0
                have hfz30_1 := blk_frozen BK234.out 1
                have hfz30_2 := blk_frozen BK234.out 2
                have hfz30_3 := blk_frozen BK234.out 3
                have hfz30_4 := blk_frozen BK234.out 4
                have hfz30_5 := blk_frozen BK234.out 5
                have hfz30_6 := blk_frozen BK234.out 6
                have hfz30_7 := blk_frozen BK234.out 7
                have hfz30_8 := blk_frozen BK234.out 8
                have hfz30_9 := blk_frozen BK234.out 9
                have hfz30_10 := blk_frozen BK234.out 10
                have hcz31_0 : w18.cell? ⟨gb220, 0, none⟩ = some (.int .i64 a0_0) := (blk_cell BK220.out 0).trans rfl
                have hcz31_1 : w18.cell? ⟨gb220, 1, none⟩ = some (.int .i64 a0_1) := (blk_cell BK220.out 1).trans rfl
                have hcz31_2 : w18.cell? ⟨gb220, 2, none⟩ = some (.int .i64 a0_2) := (blk_cell BK220.out 2).trans rfl
                have hcz31_3 : w18.cell? ⟨gb220, 3, none⟩ = some (.int .i64 a0_3) := (blk_cell BK220.out 3).trans rfl
                have hcz31_4 : w18.cell? ⟨gb220, 4, none⟩ = some (.int .i64 a0_4) := (blk_cell BK220.out 4).trans rfl
                have hcz31_5 : w18.cell? ⟨gb220, 5, none⟩ = some (.int .i64 a0_5) := (blk_cell BK220.out 5).trans rfl
                have hcz31_6 : w18.cell? ⟨gb220, 6, none⟩ = some (.bool a0_6) := (blk_cell BK220.out 6).trans rfl
                have hfz31_0 := blk_frozen BK220.out 0
                have hfz31_1 := blk_frozen BK220.out 1
                have hfz31_2 := blk_frozen BK220.out 2
                have hfz31_3 := blk_frozen BK220.out 3
                have hfz31_4 := blk_frozen BK220.out 4
                have hfz31_5 := blk_frozen BK220.out 5
                have hfz31_6 := blk_frozen BK220.out 6
                go_wp2
                go_meet
                case rel => exact ⟨_, (true), (by first | rfl | (simp; done) | (simp [*]; done)), H', ⟨by first | omega | exact Nat.le_refl _⟩, ⟨by (with_reducible repeat (first | refine blk_drewN ?_ _ | refine blk_drew ?_ | refine blk_alloc ?_ _)); exact BK220.out⟩, ⟨by (with_reducible repeat (first | refine blk_drewN ?_ _ | refine blk_drew ?_ | refine blk_alloc ?_ _)); exact BK234.out⟩, ⟨by repeat (first | (with_reducible first | exact HB.out | apply below_alloc | apply pw_below_drewN | apply below_drew1 | refine below_set ?_ GE220.out | refine below_set ?_ GE234.out) | exact HB.out)⟩⟩
              · rw [if_neg c28] at H
                have c28b0 : decide (a0_4 ≤ t231) = false := decide_eq_false c28
                clear c28
                by_cases c32 : t223 < 1
                · rw [if_pos c32] at H
                  have c32b0 : decide (t223 < 1) = true := decide_eq_true c32
                  clear c32
                  have H' := Aside0.mk H
                  clear H
                  have hnb33 := NB234_220.out
                  have hnc33 := NB220_234.out
                  have hcz34_0 : w18.cell? ⟨gb234, 0, none⟩ = some (.int .i64 t222) := (blk_cell BK234.out 0).trans rfl
                  have hcz34_1 : w18.cell? ⟨gb234, 1, none⟩ = some (.int .i64 t223) := (blk_cell BK234.out 1).trans rfl
                  have hcz34_2 : w18.cell? ⟨gb234, 2, none⟩ = some (.int .i64 t224) := (blk_cell BK234.out 2).trans rfl
                  have hcz34_3 : w18.cell? ⟨gb234, 3, none⟩ = some (.int .i64 t225) := (blk_cell BK234.out 3).trans rfl
                  have hcz34_4 : w18.cell? ⟨gb234, 4, none⟩ = some (.int .i64 t226) := (blk_cell BK234.out 4).trans rfl
                  have hcz34_5 : w18.cell? ⟨gb234, 5, none⟩ = some (.int .i64 t227) := (blk_cell BK234.out 5).trans rfl
                  have hcz34_6 : w18.cell? ⟨gb234, 6, none⟩ = some (.int .i64 t228) := (blk_cell BK234.out 6).trans rfl
                  have hcz34_7 : w18.cell? ⟨gb234, 7, none⟩ = some (.int .i64 t229) := (blk_cell BK234.out 7).trans rfl
                  have hcz34_8 : w18.cell? ⟨gb234, 8, none⟩ = some (.int .i64 t230) := (blk_cell BK234.out 8).trans rfl
                  have hcz34_9 : w18.cell? ⟨gb234, 9, none⟩ = some (.int .i64 t231) := (blk_cell BK234.out 9).trans rfl
                  have hcz34_10 : w18.cell? ⟨gb234, 10, none⟩ = some (.int .i64 t232) := (blk_cell BK234.out 10).trans rfl
                  have hfz34_0 := blk_frozen BK234.out 0
                  have hfz34_1 := blk_frozen BK234.out 1
                  have hfz34_2 := blk_frozen BK234.out 2
                  have hfz34_3 := blk_frozen BK234.out 3
                  have hfz34_4 := blk_frozen BK234.out 4
                  have hfz34_5 := blk_frozen BK234.out 5
                  have hfz34_6 := blk_frozen BK234.out 6
                  have hfz34_7 := blk_frozen BK234.out 7
                  have hfz34_8 := blk_frozen BK234.out 8
                  have hfz34_9 := blk_frozen BK234.out 9
                  have hfz34_10 := blk_frozen BK234.out 10
                  have hcz35_0 : w18.cell? ⟨gb220, 0, none⟩ = some (.int .i64 a0_0) := (blk_cell BK220.out 0).trans rfl
                  have hcz35_1 : w18.cell? ⟨gb220, 1, none⟩ = some (.int .i64 a0_1) := (blk_cell BK220.out 1).trans rfl
                  have hcz35_2 : w18.cell? ⟨gb220, 2, none⟩ = some (.int .i64 a0_2) := (blk_cell BK220.out 2).trans rfl
                  have hcz35_3 : w18.cell? ⟨gb220, 3, none⟩ = some (.int .i64 a0_3) := (blk_cell BK220.out 3).trans rfl
                  have hcz35_4 : w18.cell? ⟨gb220, 4, none⟩ = some (.int .i64 a0_4) := (blk_cell BK220.out 4).trans rfl
                  have hcz35_5 : w18.cell? ⟨gb220, 5, none⟩ = some (.int .i64 a0_5) := (blk_cell BK220.out 5).trans rfl
                  have hcz35_6 : w18.cell? ⟨gb220, 6, none⟩ = some (.bool a0_6) := (blk_cell BK220.out 6).trans rfl
                  have hfz35_0 := blk_frozen BK220.out 0
                  have hfz35_1 := blk_frozen BK220.out 1
                  have hfz35_2 := blk_frozen BK220.out 2
                  have hfz35_3 := blk_frozen BK220.out 3
                  have hfz35_4 := blk_frozen BK220.out 4
                  have hfz35_5 := blk_frozen BK220.out 5
                  have hfz35_6 := blk_frozen BK220.out 6
                  go_wp2
                  go_meet
                  case rel => exact ⟨_, (true), (by first | rfl | (simp; done) | (simp [*]; done)), H', ⟨by first | omega | exact Nat.le_refl _⟩, ⟨by (with_reducible repeat (first | refine blk_drewN ?_ _ | refine blk_drew ?_ | refine blk_alloc ?_ _)); exact BK220.out⟩, ⟨by (with_reducible repeat (first | refine blk_drewN ?_ _ | refine blk_drew ?_ | refine blk_alloc ?_ _)); exact BK234.out⟩, ⟨by repeat (first | (with_reducible first | exact HB.out | apply below_alloc | apply pw_below_drewN | apply below_drew1 | refine below_set ?_ GE220.out | refine below_set ?_ GE234.out) | exact HB.out)⟩⟩
                · rw [if_neg c32] at H
                  have c32b0 : decide (t223 < 1) = false := decide_eq_false c32
                  clear c32
                  have H' := Aside0.mk H
                  clear H
                  have hnb36 := NB234_220.out
                  have hnc36 := NB220_234.out
                  have hcz37_0 : w18.cell? ⟨gb234, 0, none⟩ = some (.int .i64 t222) := (blk_cell BK234.out 0).trans rfl
                  have hcz37_1 : w18.cell? ⟨gb234, 1, none⟩ = some (.int .i64 t223) := (blk_cell BK234.out 1).trans rfl
                  have hcz37_2 : w18.cell? ⟨gb234, 2, none⟩ = some (.int .i64 t224) := (blk_cell BK234.out 2).trans rfl
                  have hcz37_3 : w18.cell? ⟨gb234, 3, none⟩ = some (.int .i64 t225) := (blk_cell BK234.out 3).trans rfl
                  have hcz37_4 : w18.cell? ⟨gb234, 4, none⟩ = some (.int .i64 t226) := (blk_cell BK234.out 4).trans rfl
                  have hcz37_5 : w18.cell? ⟨gb234, 5, none⟩ = some (.int .i64 t227) := (blk_cell BK234.out 5).trans rfl
                  have hcz37_6 : w18.cell? ⟨gb234, 6, none⟩ = some (.int .i64 t228) := (blk_cell BK234.out 6).trans rfl
                  have hcz37_7 : w18.cell? ⟨gb234, 7, none⟩ = some (.int .i64 t229) := (blk_cell BK234.out 7).trans rfl
                  have hcz37_8 : w18.cell? ⟨gb234, 8, none⟩ = some (.int .i64 t230) := (blk_cell BK234.out 8).trans rfl
                  have hcz37_9 : w18.cell? ⟨gb234, 9, none⟩ = some (.int .i64 t231) := (blk_cell BK234.out 9).trans rfl
                  have hcz37_10 : w18.cell? ⟨gb234, 10, none⟩ = some (.int .i64 t232) := (blk_cell BK234.out 10).trans rfl
                  have hfz37_0 := blk_frozen BK234.out 0
                  have hfz37_1 := blk_frozen BK234.out 1
                  have hfz37_2 := blk_frozen BK234.out 2
                  have hfz37_3 := blk_frozen BK234.out 3
                  have hfz37_4 := blk_frozen BK234.out 4
                  have hfz37_5 := blk_frozen BK234.out 5
                  have hfz37_6 := blk_frozen BK234.out 6
                  have hfz37_7 := blk_frozen BK234.out 7
                  have hfz37_8 := blk_frozen BK234.out 8
                  have hfz37_9 := blk_frozen BK234.out 9
                  have hfz37_10 := blk_frozen BK234.out 10
                  have hcz38_0 : w18.cell? ⟨gb220, 0, none⟩ = some (.int .i64 a0_0) := (blk_cell BK220.out 0).trans rfl
                  have hcz38_1 : w18.cell? ⟨gb220, 1, none⟩ = some (.int .i64 a0_1) := (blk_cell BK220.out 1).trans rfl
                  have hcz38_2 : w18.cell? ⟨gb220, 2, none⟩ = some (.int .i64 a0_2) := (blk_cell BK220.out 2).trans rfl
                  have hcz38_3 : w18.cell? ⟨gb220, 3, none⟩ = some (.int .i64 a0_3) := (blk_cell BK220.out 3).trans rfl
                  have hcz38_4 : w18.cell? ⟨gb220, 4, none⟩ = some (.int .i64 a0_4) := (blk_cell BK220.out 4).trans rfl
                  have hcz38_5 : w18.cell? ⟨gb220, 5, none⟩ = some (.int .i64 a0_5) := (blk_cell BK220.out 5).trans rfl
                  have hcz38_6 : w18.cell? ⟨gb220, 6, none⟩ = some (.bool a0_6) := (blk_cell BK220.out 6).trans rfl
                  have hfz38_0 := blk_frozen BK220.out 0
                  have hfz38_1 := blk_frozen BK220.out 1
                  have hfz38_2 := blk_frozen BK220.out 2
                  have hfz38_3 := blk_frozen BK220.out 3
                  have hfz38_4 := blk_frozen BK220.out 4
                  have hfz38_5 := blk_frozen BK220.out 5
                  have hfz38_6 := blk_frozen BK220.out 6
                  go_wp2
                  go_meet
                  case rel => exact ⟨_, (decide (t226 < 1)), (by first | rfl | (simp; done) | (simp [*]; done)), H', ⟨by first | omega | exact Nat.le_refl _⟩, ⟨by (with_reducible repeat (first | refine blk_drewN ?_ _ | refine blk_drew ?_ | refine blk_alloc ?_ _)); exact BK220.out⟩, ⟨by (with_reducible repeat (first | refine blk_drewN ?_ _ | refine blk_drew ?_ | refine blk_alloc ?_ _)); exact BK234.out⟩, ⟨by repeat (first | (with_reducible first | exact HB.out | apply below_alloc | apply pw_below_drewN | apply below_drew1 | refine below_set ?_ GE220.out | refine below_set ?_ GE234.out) | exact HB.out)⟩⟩
        · rw [if_neg c19] at H
          have c19b0 : (t233 == 0) = false := beq_eq_false_iff_ne.mpr c19
          have c19b1 : (t233 != 0) = true := bne_iff_ne.mpr c19
          (first | rw [c19b0] | (simp only [i64_w, i32_w]; rw [c19b0]) | skip)
          have H' := Aside0.mk H
          clear H
          go_wp2
          go_meet
          case rel => exact ⟨_, (true), (by first | rfl | (simp; done) | (simp [*]; done)), H', ⟨by first | omega | exact Nat.le_refl _⟩, ⟨by (with_reducible repeat (first | refine blk_drewN ?_ _ | refine blk_drew ?_ | refine blk_alloc ?_ _)); exact BK220.out⟩, ⟨by (with_reducible repeat (first | refine blk_drewN ?_ _ | refine blk_drew ?_ | refine blk_alloc ?_ _)); exact BK234.out⟩, ⟨by repeat (first | (with_reducible first | exact HB.out | apply below_alloc | apply pw_below_drewN | apply below_drew1 | refine below_set ?_ GE220.out | refine below_set ?_ GE234.out) | exact HB.out)⟩⟩
      case rest =>
        clear HC9
        try clear c1
        try clear c2
        try clear p2
        try clear c3
        try clear c5
        try clear c6
        try clear p6
        try clear c8
        try clear c9
        try clear c12
        try clear c15
        try clear c19
        try clear c19b0
        try clear c19b1
        try clear c20
        try clear c20b0
        try clear c21
        try clear c24
        try clear c24b0
        try clear c25
        try clear c28
        try clear c28b0
        try clear c29
        try clear c32
        try clear c32b0
        try clear c33
        try clear c36
        try clear hcz12_0
        try clear hcz12_1
        try clear hcz12_2
        try clear hcz12_3
        try clear hcz12_4
        try clear hcz12_5
        try clear hcz12_6
        try clear hcz16_0
        try clear hcz16_1
        try clear hcz16_10
        try clear hcz16_2
        try clear hcz16_3
        try clear hcz16_4
        try clear hcz16_5
        try clear hcz16_6
        try clear hcz16_7
        try clear hcz16_8
        try clear hcz16_9
        try clear hcz17_0
        try clear hcz17_1
        try clear hcz17_2
        try clear hcz17_3
        try clear hcz17_4
        try clear hcz17_5
        try clear hcz17_6
        try clear hcz22_0
        try clear hcz22_1
        try clear hcz22_10
        try clear hcz22_2
        try clear hcz22_3
        try clear hcz22_4
        try clear hcz22_5
        try clear hcz22_6
        try clear hcz22_7
        try clear hcz22_8
        try clear hcz22_9
        try clear hcz23_0
        try clear hcz23_1
        try clear hcz23_2
        try clear hcz23_3
        try clear hcz23_4
        try clear hcz23_5
        try clear hcz23_6
        try clear hcz26_0
        try clear hcz26_1
        try clear hcz26_10
        try clear hcz26_2
        try clear hcz26_3
        try clear hcz26_4
        try clear hcz26_5
        try clear hcz26_6
        try clear hcz26_7
        try clear hcz26_8
        try clear hcz26_9
        try clear hcz27_0
        try clear hcz27_1
        try clear hcz27_2
        try clear hcz27_3
        try clear hcz27_4
        try clear hcz27_5
        try clear hcz27_6
        try clear hcz30_0
        try clear hcz30_1
        try clear hcz30_10
        try clear hcz30_2
        try clear hcz30_3
        try clear hcz30_4
        try clear hcz30_5
        try clear hcz30_6
        try clear hcz30_7
        try clear hcz30_8
        try clear hcz30_9
        try clear hcz31_0
        try clear hcz31_1
        try clear hcz31_2
        try clear hcz31_3
        try clear hcz31_4
        try clear hcz31_5
        try clear hcz31_6
        try clear hcz34_0
        try clear hcz34_1
        try clear hcz34_10
        try clear hcz34_2
        try clear hcz34_3
        try clear hcz34_4
        try clear hcz34_5
        try clear hcz34_6
        try clear hcz34_7
        try clear hcz34_8
        try clear hcz34_9
        try clear hcz35_0
        try clear hcz35_1
        try clear hcz35_2
        try clear hcz35_3
        try clear hcz35_4
        try clear hcz35_5
        try clear hcz35_6
        try clear hcz37_0
        try clear hcz37_1
        try clear hcz37_10
        try clear hcz37_2
        try clear hcz37_3
        try clear hcz37_4
        try clear hcz37_5
        try clear hcz37_6
        try clear hcz37_7
        try clear hcz37_8
        try clear hcz37_9
        try clear hcz38_0
        try clear hcz38_1
        try clear hcz38_2
        try clear hcz38_3
        try clear hcz38_4
        try clear hcz38_5
        try clear hcz38_6
        try clear hfz12_0
        try clear hfz12_1
        try clear hfz12_2
        try clear hfz12_3
        try clear hfz12_4
        try clear hfz12_5
        try clear hfz12_6
        try clear hfz16_0
        try clear hfz16_1
        try clear hfz16_10
        try clear hfz16_2
        try clear hfz16_3
        try clear hfz16_4
        try clear hfz16_5
        try clear hfz16_6
        try clear hfz16_7
        try clear hfz16_8
        try clear hfz16_9
        try clear hfz17_0
        try clear hfz17_1
        try clear hfz17_2
        try clear hfz17_3
        try clear hfz17_4
        try clear hfz17_5
        try clear hfz17_6
        try clear hfz22_0
        try clear hfz22_1
        try clear hfz22_10
        try clear hfz22_2
        try clear hfz22_3
        try clear hfz22_4
        try clear hfz22_5
        try clear hfz22_6
        try clear hfz22_7
        try clear hfz22_8
        try clear hfz22_9
        try clear hfz23_0
        try clear hfz23_1
        try clear hfz23_2
        try clear hfz23_3
        try clear hfz23_4
        try clear hfz23_5
        try clear hfz23_6
        try clear hfz26_0
        try clear hfz26_1
        try clear hfz26_10
        try clear hfz26_2
        try clear hfz26_3
        try clear hfz26_4
        try clear hfz26_5
        try clear hfz26_6
        try clear hfz26_7
        try clear hfz26_8
        try clear hfz26_9
        try clear hfz27_0
        try clear hfz27_1
        try clear hfz27_2
        try clear hfz27_3
        try clear hfz27_4
        try clear hfz27_5
        try clear hfz27_6
        try clear hfz30_0
        try clear hfz30_1
        try clear hfz30_10
        try clear hfz30_2
        try clear hfz30_3
        try clear hfz30_4
        try clear hfz30_5
        try clear hfz30_6
        try clear hfz30_7
        try clear hfz30_8
        try clear hfz30_9
        try clear hfz31_0
        try clear hfz31_1
        try clear hfz31_2
        try clear hfz31_3
        try clear hfz31_4
        try clear hfz31_5
        try clear hfz31_6
        try clear hfz34_0
        try clear hfz34_1
        try clear hfz34_10
        try clear hfz34_2
        try clear hfz34_3
        try clear hfz34_4
        try clear hfz34_5
        try clear hfz34_6
        try clear hfz34_7
        try clear hfz34_8
        try clear hfz34_9
        try clear hfz35_0
        try clear hfz35_1
        try clear hfz35_2
        try clear hfz35_3
        try clear hfz35_4
        try clear hfz35_5
        try clear hfz35_6
        try clear hfz37_0
        try clear hfz37_1
        try clear hfz37_10
        try clear hfz37_2
        try clear hfz37_3
        try clear hfz37_4
        try clear hfz37_5
        try clear hfz37_6
        try clear hfz37_7
        try clear hfz37_8
        try clear hfz37_9
        try clear hfz38_0
        try clear hfz38_1
        try clear hfz38_2
        try clear hfz38_3
        try clear hfz38_4
        try clear hfz38_5
        try clear hfz38_6
        obtain ⟨kq, x63_8, rfl, HA, HJ8, BK220, BK234, HB⟩ := hcut
        cases kq with
        | zero => exact absurd HA.out (by simp [ferrulelaw16_SizeLess.j0])
        | succ kj8 =>
          have H := HA.out
          clear HA
          simp only [ferrulelaw16_SizeLess.j0] at H
          by_cases c39 : x63_8 = true
          · subst c39
            have H1 : (some false) = some r := by rw [if_pos rfl] at H; exact H
            clear H
            have H := H1
            clear H1
            obtain rfl := Option.some.inj H
            go_wp2
            go_ret
            exact ⟨by first | rfl | (simp [errW_none, errW_some] <;> rfl) | (simp [*, errW_none, errW_some] <;> rfl), by repeat (first | (with_reducible first | exact HB.out | apply below_alloc | apply pw_below_drewN | apply below_drew1 | refine below_set ?_ GE220.out | refine below_set ?_ GE234.out) | exact HB.out)⟩
          · replace c39 := Bool.eq_false_iff.mpr c39
            subst c39
            have H1 : (if a1 < 2 then (ferrulelaw16_SizeLess.j1 kj8 a1 a2 true a0_0 a0_1 a0_2 a0_3 a0_4 a0_5 a0_6) else (if a1 > a0_2 then (ferrulelaw16_SizeLess.j1 kj8 a1 a2 true a0_0 a0_1 a0_2 a0_3 a0_4 a0_5 a0_6) else (if a2 < 1 then (ferrulelaw16_SizeLess.j1 kj8 a1 a2 true a0_0 a0_1 a0_2 a0_3 a0_4 a0_5 a0_6) else (ferrulelaw16_SizeLess.j1 kj8 a1 a2 (decide (a2 > 1000)) a0_0 a0_1 a0_2 a0_3 a0_4 a0_5 a0_6)))) = some r := by rw [if_neg (show ¬ (false = true) by decide)] at H; exact H
            clear H
            have H := H1
            clear H1
            have HC40 := Aside0.mk H
            clear H
            go_upto_region 8 with (fail)
            go_cut [79] (fun v79 wc => ∃ (kq : Nat) (x79_39 : Bool), v79 = .bool x79_39 ∧ Aside0 (ferrulelaw16_SizeLess.j1 kq a1 a2 x79_39 a0_0 a0_1 a0_2 a0_3 a0_4 a0_5 a0_6 = some r) ∧ Aside0 (kq ≤ kj8) ∧ Aside0 (wc.heap[gb220]? = some (.cells #[.int .i64 a0_0, .int .i64 a0_1, .int .i64 a0_2, .int .i64 a0_3, .int .i64 a0_4, .int .i64 a0_5, .bool a0_6] 29 (0, 0))) ∧ Aside0 (wc.heap[gb234]? = some (.cells #[.int .i64 t222, .int .i64 t223, .int .i64 t224, .int .i64 t225, .int .i64 t226, .int .i64 t227, .int .i64 t228, .int .i64 t229, .int .i64 t230, .int .i64 t231, .int .i64 t232] 24 (0, 0))) ∧ Aside0 (Below w.heap.size w wc))
            case first =>
              have H := HC40.out
              clear HC40
              by_cases c41 : a1 < 2
              · rw [if_pos c41] at H
                have c41b0 : decide (a1 < 2) = true := decide_eq_true c41
                clear c41
                (first | rw [c41b0] | (simp only [i64_w, i32_w]; rw [c41b0]) | skip)
                have H' := Aside0.mk H
                clear H
                go_wp2
                go_meet
                case rel => exact ⟨_, (true), (by first | rfl | (simp; done) | (simp [*]; done)), H', ⟨by have := HJ8.out; first | omega | exact Nat.le_refl _⟩, ⟨by (with_reducible repeat (first | refine blk_drewN ?_ _ | refine blk_drew ?_ | refine blk_alloc ?_ _)); exact BK220.out⟩, ⟨by (with_reducible repeat (first | refine blk_drewN ?_ _ | refine blk_drew ?_ | refine blk_alloc ?_ _)); exact BK234.out⟩, ⟨by repeat (first | (with_reducible first | exact HB.out | apply below_alloc | apply pw_below_drewN | apply below_drew1 | refine below_set ?_ GE220.out | refine below_set ?_ GE234.out) | exact HB.out)⟩⟩
              · rw [if_neg c41] at H
                have c41b0 : decide (a1 < 2) = false := decide_eq_false c41
                clear c41
                (first | rw [c41b0] | (simp only [i64_w, i32_w]; rw [c41b0]) | skip)
                by_cases c42 : a1 > a0_2
                · rw [if_pos c42] at H
                  have c42b0 : decide (a0_2 < a1) = true := decide_eq_true c42
                  clear c42
                  have H' := Aside0.mk H
                  clear H
                  have hnb43 := NB220_234.out
                  have hnc43 := NB234_220.out
                  have hcz44_0 : wc.cell? ⟨gb220, 0, none⟩ = some (.int .i64 a0_0) := (blk_cell BK220.out 0).trans rfl
                  have hcz44_1 : wc.cell? ⟨gb220, 1, none⟩ = some (.int .i64 a0_1) := (blk_cell BK220.out 1).trans rfl
                  have hcz44_2 : wc.cell? ⟨gb220, 2, none⟩ = some (.int .i64 a0_2) := (blk_cell BK220.out 2).trans rfl
                  have hcz44_3 : wc.cell? ⟨gb220, 3, none⟩ = some (.int .i64 a0_3) := (blk_cell BK220.out 3).trans rfl
                  have hcz44_4 : wc.cell? ⟨gb220, 4, none⟩ = some (.int .i64 a0_4) := (blk_cell BK220.out 4).trans rfl
                  have hcz44_5 : wc.cell? ⟨gb220, 5, none⟩ = some (.int .i64 a0_5) := (blk_cell BK220.out 5).trans rfl
                  have hcz44_6 : wc.cell? ⟨gb220, 6, none⟩ = some (.bool a0_6) := (blk_cell BK220.out 6).trans rfl
                  have hfz44_0 := blk_frozen BK220.out 0
                  have hfz44_1 := blk_frozen BK220.out 1
                  have hfz44_2 := blk_frozen BK220.out 2
                  have hfz44_3 := blk_frozen BK220.out 3
                  have hfz44_4 := blk_frozen BK220.out 4
                  have hfz44_5 := blk_frozen BK220.out 5
                  have hfz44_6 := blk_frozen BK220.out 6
                  go_wp2
                  go_meet
                  case rel => exact ⟨_, (true), (by first | rfl | (simp; done) | (simp [*]; done)), H', ⟨by have := HJ8.out; first | omega | exact Nat.le_refl _⟩, ⟨by (with_reducible repeat (first | refine blk_drewN ?_ _ | refine blk_drew ?_ | refine blk_alloc ?_ _)); exact BK220.out⟩, ⟨by (with_reducible repeat (first | refine blk_drewN ?_ _ | refine blk_drew ?_ | refine blk_alloc ?_ _)); exact BK234.out⟩, ⟨by repeat (first | (with_reducible first | exact HB.out | apply below_alloc | apply pw_below_drewN | apply below_drew1 | refine below_set ?_ GE220.out | refine below_set ?_ GE234.out) | exact HB.out)⟩⟩
                · rw [if_neg c42] at H
                  have c42b0 : decide (a0_2 < a1) = false := decide_eq_false c42
                  clear c42
                  by_cases c45 : a2 < 1
                  · rw [if_pos c45] at H
                    have c45b0 : decide (a2 < 1) = true := decide_eq_true c45
                    clear c45
                    have H' := Aside0.mk H
                    clear H
                    have hnb46 := NB220_234.out
                    have hnc46 := NB234_220.out
                    have hcz47_0 : wc.cell? ⟨gb220, 0, none⟩ = some (.int .i64 a0_0) := (blk_cell BK220.out 0).trans rfl
                    have hcz47_1 : wc.cell? ⟨gb220, 1, none⟩ = some (.int .i64 a0_1) := (blk_cell BK220.out 1).trans rfl
                    have hcz47_2 : wc.cell? ⟨gb220, 2, none⟩ = some (.int .i64 a0_2) := (blk_cell BK220.out 2).trans rfl
                    have hcz47_3 : wc.cell? ⟨gb220, 3, none⟩ = some (.int .i64 a0_3) := (blk_cell BK220.out 3).trans rfl
                    have hcz47_4 : wc.cell? ⟨gb220, 4, none⟩ = some (.int .i64 a0_4) := (blk_cell BK220.out 4).trans rfl
                    have hcz47_5 : wc.cell? ⟨gb220, 5, none⟩ = some (.int .i64 a0_5) := (blk_cell BK220.out 5).trans rfl
                    have hcz47_6 : wc.cell? ⟨gb220, 6, none⟩ = some (.bool a0_6) := (blk_cell BK220.out 6).trans rfl
                    have hfz47_0 := blk_frozen BK220.out 0
                    have hfz47_1 := blk_frozen BK220.out 1
                    have hfz47_2 := blk_frozen BK220.out 2
                    have hfz47_3 := blk_frozen BK220.out 3
                    have hfz47_4 := blk_frozen BK220.out 4
                    have hfz47_5 := blk_frozen BK220.out 5
                    have hfz47_6 := blk_frozen BK220.out 6
                    go_wp2
                    go_meet
                    case rel => exact ⟨_, (true), (by first | rfl | (simp; done) | (simp [*]; done)), H', ⟨by have := HJ8.out; first | omega | exact Nat.le_refl _⟩, ⟨by (with_reducible repeat (first | refine blk_drewN ?_ _ | refine blk_drew ?_ | refine blk_alloc ?_ _)); exact BK220.out⟩, ⟨by (with_reducible repeat (first | refine blk_drewN ?_ _ | refine blk_drew ?_ | refine blk_alloc ?_ _)); exact BK234.out⟩, ⟨by repeat (first | (with_reducible first | exact HB.out | apply below_alloc | apply pw_below_drewN | apply below_drew1 | refine below_set ?_ GE220.out | refine below_set ?_ GE234.out) | exact HB.out)⟩⟩
                  · rw [if_neg c45] at H
                    have c45b0 : decide (a2 < 1) = false := decide_eq_false c45
                    clear c45
                    have H' := Aside0.mk H
                    clear H
                    have hnb48 := NB220_234.out
                    have hnc48 := NB234_220.out
                    have hcz49_0 : wc.cell? ⟨gb220, 0, none⟩ = some (.int .i64 a0_0) := (blk_cell BK220.out 0).trans rfl
                    have hcz49_1 : wc.cell? ⟨gb220, 1, none⟩ = some (.int .i64 a0_1) := (blk_cell BK220.out 1).trans rfl
                    have hcz49_2 : wc.cell? ⟨gb220, 2, none⟩ = some (.int .i64 a0_2) := (blk_cell BK220.out 2).trans rfl
                    have hcz49_3 : wc.cell? ⟨gb220, 3, none⟩ = some (.int .i64 a0_3) := (blk_cell BK220.out 3).trans rfl
                    have hcz49_4 : wc.cell? ⟨gb220, 4, none⟩ = some (.int .i64 a0_4) := (blk_cell BK220.out 4).trans rfl
                    have hcz49_5 : wc.cell? ⟨gb220, 5, none⟩ = some (.int .i64 a0_5) := (blk_cell BK220.out 5).trans rfl
                    have hcz49_6 : wc.cell? ⟨gb220, 6, none⟩ = some (.bool a0_6) := (blk_cell BK220.out 6).trans rfl
                    have hfz49_0 := blk_frozen BK220.out 0
                    have hfz49_1 := blk_frozen BK220.out 1
                    have hfz49_2 := blk_frozen BK220.out 2
                    have hfz49_3 := blk_frozen BK220.out 3
                    have hfz49_4 := blk_frozen BK220.out 4
                    have hfz49_5 := blk_frozen BK220.out 5
                    have hfz49_6 := blk_frozen BK220.out 6
                    go_wp2
                    go_meet
                    case rel => exact ⟨_, (decide (a2 > 1000)), (by first | rfl | (simp; done) | (simp [*]; done)), H', ⟨by have := HJ8.out; first | omega | exact Nat.le_refl _⟩, ⟨by (with_reducible repeat (first | refine blk_drewN ?_ _ | refine blk_drew ?_ | refine blk_alloc ?_ _)); exact BK220.out⟩, ⟨by (with_reducible repeat (first | refine blk_drewN ?_ _ | refine blk_drew ?_ | refine blk_alloc ?_ _)); exact BK234.out⟩, ⟨by repeat (first | (with_reducible first | exact HB.out | apply below_alloc | apply pw_below_drewN | apply below_drew1 | refine below_set ?_ GE220.out | refine below_set ?_ GE234.out) | exact HB.out)⟩⟩
            case rest =>
              clear HC40
              try clear c1
              try clear c2
              try clear p2
              try clear c3
              try clear c4
              try clear c5
              try clear c6
              try clear p6
              try clear c8
              try clear c9
              try clear c12
              try clear c15
              try clear c19
              try clear c19b0
              try clear c19b1
              try clear c20
              try clear c20b0
              try clear c21
              try clear c24
              try clear c24b0
              try clear c25
              try clear c28
              try clear c28b0
              try clear c29
              try clear c32
              try clear c32b0
              try clear c33
              try clear c36
              try clear c39
              try clear c41
              try clear c41b0
              try clear c42
              try clear c42b0
              try clear c43
              try clear c45
              try clear c45b0
              try clear c46
              try clear c48
              try clear hcz12_0
              try clear hcz12_1
              try clear hcz12_2
              try clear hcz12_3
              try clear hcz12_4
              try clear hcz12_5
              try clear hcz12_6
              try clear hcz16_0
              try clear hcz16_1
              try clear hcz16_10
              try clear hcz16_2
              try clear hcz16_3
              try clear hcz16_4
              try clear hcz16_5
              try clear hcz16_6
              try clear hcz16_7
              try clear hcz16_8
              try clear hcz16_9
              try clear hcz17_0
              try clear hcz17_1
              try clear hcz17_2
              try clear hcz17_3
              try clear hcz17_4
              try clear hcz17_5
              try clear hcz17_6
              try clear hcz22_0
              try clear hcz22_1
              try clear hcz22_10
              try clear hcz22_2
              try clear hcz22_3
              try clear hcz22_4
              try clear hcz22_5
              try clear hcz22_6
              try clear hcz22_7
              try clear hcz22_8
              try clear hcz22_9
              try clear hcz23_0
              try clear hcz23_1
              try clear hcz23_2
              try clear hcz23_3
              try clear hcz23_4
              try clear hcz23_5
              try clear hcz23_6
              try clear hcz26_0
              try clear hcz26_1
              try clear hcz26_10
              try clear hcz26_2
              try clear hcz26_3
              try clear hcz26_4
              try clear hcz26_5
              try clear hcz26_6
              try clear hcz26_7
              try clear hcz26_8
              try clear hcz26_9
              try clear hcz27_0
              try clear hcz27_1
              try clear hcz27_2
              try clear hcz27_3
              try clear hcz27_4
              try clear hcz27_5
              try clear hcz27_6
              try clear hcz30_0
              try clear hcz30_1
              try clear hcz30_10
              try clear hcz30_2
              try clear hcz30_3
              try clear hcz30_4
              try clear hcz30_5
              try clear hcz30_6
              try clear hcz30_7
              try clear hcz30_8
              try clear hcz30_9
              try clear hcz31_0
              try clear hcz31_1
              try clear hcz31_2
              try clear hcz31_3
              try clear hcz31_4
              try clear hcz31_5
              try clear hcz31_6
              try clear hcz34_0
              try clear hcz34_1
              try clear hcz34_10
              try clear hcz34_2
              try clear hcz34_3
              try clear hcz34_4
              try clear hcz34_5
              try clear hcz34_6
              try clear hcz34_7
              try clear hcz34_8
              try clear hcz34_9
              try clear hcz35_0
              try clear hcz35_1
              try clear hcz35_2
              try clear hcz35_3
              try clear hcz35_4
              try clear hcz35_5
              try clear hcz35_6
              try clear hcz37_0
              try clear hcz37_1
              try clear hcz37_10
              try clear hcz37_2
              try clear hcz37_3
              try clear hcz37_4
              try clear hcz37_5
              try clear hcz37_6
              try clear hcz37_7
              try clear hcz37_8
              try clear hcz37_9
              try clear hcz38_0
              try clear hcz38_1
              try clear hcz38_2
              try clear hcz38_3
              try clear hcz38_4
              try clear hcz38_5
              try clear hcz38_6
              try clear hcz44_0
              try clear hcz44_1
              try clear hcz44_2
              try clear hcz44_3
              try clear hcz44_4
              try clear hcz44_5
              try clear hcz44_6
              try clear hcz47_0
              try clear hcz47_1
              try clear hcz47_2
              try clear hcz47_3
              try clear hcz47_4
              try clear hcz47_5
              try clear hcz47_6
              try clear hcz49_0
              try clear hcz49_1
              try clear hcz49_2
              try clear hcz49_3
              try clear hcz49_4
              try clear hcz49_5
              try clear hcz49_6
              try clear hfz12_0
              try clear hfz12_1
              try clear hfz12_2
              try clear hfz12_3
              try clear hfz12_4
              try clear hfz12_5
              try clear hfz12_6
              try clear hfz16_0
              try clear hfz16_1
              try clear hfz16_10
              try clear hfz16_2
              try clear hfz16_3
              try clear hfz16_4
              try clear hfz16_5
              try clear hfz16_6
              try clear hfz16_7
              try clear hfz16_8
              try clear hfz16_9
              try clear hfz17_0
              try clear hfz17_1
              try clear hfz17_2
              try clear hfz17_3
              try clear hfz17_4
              try clear hfz17_5
              try clear hfz17_6
              try clear hfz22_0
              try clear hfz22_1
              try clear hfz22_10
              try clear hfz22_2
              try clear hfz22_3
              try clear hfz22_4
              try clear hfz22_5
              try clear hfz22_6
              try clear hfz22_7
              try clear hfz22_8
              try clear hfz22_9
              try clear hfz23_0
              try clear hfz23_1
              try clear hfz23_2
              try clear hfz23_3
              try clear hfz23_4
              try clear hfz23_5
              try clear hfz23_6
              try clear hfz26_0
              try clear hfz26_1
              try clear hfz26_10
              try clear hfz26_2
              try clear hfz26_3
              try clear hfz26_4
              try clear hfz26_5
              try clear hfz26_6
              try clear hfz26_7
              try clear hfz26_8
              try clear hfz26_9
              try clear hfz27_0
              try clear hfz27_1
              try clear hfz27_2
              try clear hfz27_3
              try clear hfz27_4
              try clear hfz27_5
              try clear hfz27_6
              try clear hfz30_0
              try clear hfz30_1
              try clear hfz30_10
              try clear hfz30_2
              try clear hfz30_3
              try clear hfz30_4
              try clear hfz30_5
              try clear hfz30_6
              try clear hfz30_7
              try clear hfz30_8
              try clear hfz30_9
              try clear hfz31_0
              try clear hfz31_1
              try clear hfz31_2
              try clear hfz31_3
              try clear hfz31_4
              try clear hfz31_5
              try clear hfz31_6
              try clear hfz34_0
              try clear hfz34_1
              try clear hfz34_10
              try clear hfz34_2
              try clear hfz34_3
              try clear hfz34_4
              try clear hfz34_5
              try clear hfz34_6
              try clear hfz34_7
              try clear hfz34_8
              try clear hfz34_9
              try clear hfz35_0
              try clear hfz35_1
              try clear hfz35_2
              try clear hfz35_3
              try clear hfz35_4
              try clear hfz35_5
              try clear hfz35_6
              try clear hfz37_0
              try clear hfz37_1
              try clear hfz37_10
              try clear hfz37_2
              try clear hfz37_3
              try clear hfz37_4
              try clear hfz37_5
              try clear hfz37_6
              try clear hfz37_7
              try clear hfz37_8
              try clear hfz37_9
              try clear hfz38_0
              try clear hfz38_1
              try clear hfz38_2
              try clear hfz38_3
              try clear hfz38_4
              try clear hfz38_5
              try clear hfz38_6
              try clear hfz44_0
              try clear hfz44_1
              try clear hfz44_2
              try clear hfz44_3
              try clear hfz44_4
              try clear hfz44_5
              try clear hfz44_6
              try clear hfz47_0
              try clear hfz47_1
              try clear hfz47_2
              try clear hfz47_3
              try clear hfz47_4
              try clear hfz47_5
              try clear hfz47_6
              try clear hfz49_0
              try clear hfz49_1
              try clear hfz49_2
              try clear hfz49_3
              try clear hfz49_4
              try clear hfz49_5
              try clear hfz49_6
              try clear p2
              try clear p6
              obtain ⟨kq, x79_39, rfl, HA, HJ39, BK220, BK234, HB⟩ := hcut
              cases kq with
              | zero => exact absurd HA.out (by simp [ferrulelaw16_SizeLess.j1])
              | succ kj39 =>
                have H := HA.out
                clear HA
                simp only [ferrulelaw16_SizeLess.j1] at H
                by_cases c50 : x79_39 = true
                · subst c50
                  have H1 : (some true) = some r := by rw [if_pos rfl] at H; exact H
                  clear H
                  have H := H1
                  clear H1
                  obtain rfl := Option.some.inj H
                  go_wp2
                  go_ret
                  exact ⟨by first | rfl | (simp [errW_none, errW_some] <;> rfl) | (simp [*, errW_none, errW_some] <;> rfl), by repeat (first | (with_reducible first | exact HB.out | apply below_alloc | apply pw_below_drewN | apply below_drew1 | refine below_set ?_ GE220.out | refine below_set ?_ GE234.out) | exact HB.out)⟩
                · replace c50 := Bool.eq_false_iff.mpr c50
                  subst c50
                  have H1 : ((size_CallPrograms.f kj39 a0_0 a0_1 a0_2 a0_3 a0_4 a0_5 a0_6 a1 a2).bind fun bt236 => ((size_CallPrograms.f kj39 a0_0 a0_1 a0_2 a0_3 a0_4 a0_5 a0_6 (wrap64 (a1 - 1)) a2).bind fun bt238 => ((size_CallPrograms.f kj39 a0_0 a0_1 a0_2 a0_3 a0_4 a0_5 a0_6 a1 (wrap64 (a2 - 1))).bind fun bt240 => (if bt236.2 = 0 then (if bt238.2 = 0 then (if bt240.2 = 0 then (if bt236.1 > bt238.1 then (if bt236.1 > bt240.1 then (some (decide (bt238.1 ≥ a1))) else (some false)) else (some false)) else (some false)) else (some false)) else (some false))))) = some r := by rw [if_neg (show ¬ (false = true) by decide)] at H; exact H
                  clear H
                  have H := H1
                  clear H1
                  replace H := Option.bind_eq_some_iff.mp H
                  obtain ⟨⟨t236, t237⟩, A510, H⟩ := H
                  replace H : ((size_CallPrograms.f kj39 a0_0 a0_1 a0_2 a0_3 a0_4 a0_5 a0_6 (wrap64 (a1 - 1)) a2).bind fun bt238 => ((size_CallPrograms.f kj39 a0_0 a0_1 a0_2 a0_3 a0_4 a0_5 a0_6 a1 (wrap64 (a2 - 1))).bind fun bt240 => (if t237 = 0 then (if bt238.2 = 0 then (if bt240.2 = 0 then (if t236 > bt238.1 then (if t236 > bt240.1 then (some (decide (bt238.1 ≥ a1))) else (some false)) else (some false)) else (some false)) else (some false)) else (some false)))) = some r := H
                  have A51 := Aside0.mk A510
                  clear A510
                  replace H := Option.bind_eq_some_iff.mp H
                  obtain ⟨⟨t238, t239⟩, A520, H⟩ := H
                  replace H : ((size_CallPrograms.f kj39 a0_0 a0_1 a0_2 a0_3 a0_4 a0_5 a0_6 a1 (wrap64 (a2 - 1))).bind fun bt240 => (if t237 = 0 then (if t239 = 0 then (if bt240.2 = 0 then (if t236 > t238 then (if t236 > bt240.1 then (some (decide (t238 ≥ a1))) else (some false)) else (some false)) else (some false)) else (some false)) else (some false))) = some r := H
                  have A52 := Aside0.mk A520
                  clear A520
                  replace H := Option.bind_eq_some_iff.mp H
                  obtain ⟨⟨t240, t241⟩, A530, H⟩ := H
                  replace H : (if t237 = 0 then (if t239 = 0 then (if t241 = 0 then (if t236 > t238 then (if t236 > t240 then (some (decide (t238 ≥ a1))) else (some false)) else (some false)) else (some false)) else (some false)) else (some false)) = some r := H
                  have A53 := Aside0.mk A530
                  clear A530
                  by_cases c54 : t237 = 0
                  · rw [if_pos c54] at H
                    have c54b0 : (t237 == 0) = true := beq_iff_eq.mpr c54
                    have c54b1 : (t237 != 0) = false := bne_eq_false_iff_eq.mpr c54
                    clear c54
                    by_cases c55 : t239 = 0
                    · rw [if_pos c55] at H
                      have c55b0 : (t239 == 0) = true := beq_iff_eq.mpr c55
                      have c55b1 : (t239 != 0) = false := bne_eq_false_iff_eq.mpr c55
                      clear c55
                      by_cases c56 : t241 = 0
                      · rw [if_pos c56] at H
                        have c56b0 : (t241 == 0) = true := beq_iff_eq.mpr c56
                        have c56b1 : (t241 != 0) = false := bne_eq_false_iff_eq.mpr c56
                        clear c56
                        by_cases c57 : t236 > t238
                        · rw [if_pos c57] at H
                          have c57b0 : decide (t238 < t236) = true := decide_eq_true c57
                          clear c57
                          by_cases c58 : t236 > t240
                          · rw [if_pos c58] at H
                            have c58b0 : decide (t240 < t236) = true := decide_eq_true c58
                            clear c58
                            obtain rfl := Option.some.inj H
                            have hnb59 := NB220_234.out
                            have hnc59 := NB234_220.out
                            have hcz60_0 : wc.cell? ⟨gb220, 0, none⟩ = some (.int .i64 a0_0) := (blk_cell BK220.out 0).trans rfl
                            have hcz60_1 : wc.cell? ⟨gb220, 1, none⟩ = some (.int .i64 a0_1) := (blk_cell BK220.out 1).trans rfl
                            have hcz60_2 : wc.cell? ⟨gb220, 2, none⟩ = some (.int .i64 a0_2) := (blk_cell BK220.out 2).trans rfl
                            have hcz60_3 : wc.cell? ⟨gb220, 3, none⟩ = some (.int .i64 a0_3) := (blk_cell BK220.out 3).trans rfl
                            have hcz60_4 : wc.cell? ⟨gb220, 4, none⟩ = some (.int .i64 a0_4) := (blk_cell BK220.out 4).trans rfl
                            have hcz60_5 : wc.cell? ⟨gb220, 5, none⟩ = some (.int .i64 a0_5) := (blk_cell BK220.out 5).trans rfl
                            have hcz60_6 : wc.cell? ⟨gb220, 6, none⟩ = some (.bool a0_6) := (blk_cell BK220.out 6).trans rfl
                            have hfz60_0 := blk_frozen BK220.out 0
                            have hfz60_1 := blk_frozen BK220.out 1
                            have hfz60_2 := blk_frozen BK220.out 2
                            have hfz60_3 := blk_frozen BK220.out 3
                            have hfz60_4 := blk_frozen BK220.out 4
                            have hfz60_5 := blk_frozen BK220.out 5
                            have hfz60_6 := blk_frozen BK220.out 6
                            go_wp2_with (first | ((with_reducible refine gate_callee (f := 11) rfl ?_); refine goesL_ (some 84) rfl rfl Try.func11 (by kernel_rfl) rfl #[.agg #[.int .i64 a0_0, .int .i64 a0_1, .int .i64 a0_2, .int .i64 a0_3, .int .i64 a0_4, .int .i64 a0_5, .bool a0_6], .int .i64 a1, .int .i64 a2] rfl (by (try simp only [List.map_toArray, List.map_cons, List.map_nil]); first | done | rfl | (simp only [List.length_drop, List.length_take]; rfl)) ?_; (with_reducible refine (size_CallPrograms.calls kj39 a0_0 a0_1 a0_2 a0_3 a0_4 a0_5 a0_6 a1 a2 t236 t237 _ A51.out).mono ?_); rintro e w61 ⟨rfl, hb⟩; refine ⟨_, rfl, ?_⟩; have n0_ := Aside0.mk (blk_below (g := gb220) (o := .cells #[.int .i64 a0_0, .int .i64 a0_1, .int .i64 a0_2, .int .i64 a0_3, .int .i64 a0_4, .int .i64 a0_5, .bool a0_6] 29 (0, 0)) (by (with_reducible repeat (first | refine blk_drewN ?_ _ | refine blk_drew ?_ | refine blk_alloc ?_ _)); exact BK220.out) hb); have n1_ := Aside0.mk (blk_below (g := gb234) (o := .cells #[.int .i64 t222, .int .i64 t223, .int .i64 t224, .int .i64 t225, .int .i64 t226, .int .i64 t227, .int .i64 t228, .int .i64 t229, .int .i64 t230, .int .i64 t231, .int .i64 t232] 24 (0, 0)) (by (with_reducible repeat (first | refine blk_drewN ?_ _ | refine blk_drew ?_ | refine blk_alloc ?_ _)); exact BK234.out) hb); have n2_ := Aside0.mk (below_step (by repeat (first | (with_reducible first | exact HB.out | apply below_alloc | apply pw_below_drewN | apply below_drew1 | refine below_set ?_ GE220.out | refine below_set ?_ GE234.out) | exact HB.out)) hb); clear BK220; clear BK234; clear HB; have BK220 := n0_; have BK234 := n1_; have HB := n2_; clear n0_ n1_ n2_; (try clear hb); (try clear hb2); (try clear hk); (try clear hi); have hcz62_0 : w61.cell? ⟨gb220, 0, none⟩ = some (.int .i64 a0_0) := (blk_cell BK220.out 0).trans rfl; have hcz62_1 : w61.cell? ⟨gb220, 1, none⟩ = some (.int .i64 a0_1) := (blk_cell BK220.out 1).trans rfl; have hcz62_2 : w61.cell? ⟨gb220, 2, none⟩ = some (.int .i64 a0_2) := (blk_cell BK220.out 2).trans rfl; have hcz62_3 : w61.cell? ⟨gb220, 3, none⟩ = some (.int .i64 a0_3) := (blk_cell BK220.out 3).trans rfl; have hcz62_4 : w61.cell? ⟨gb220, 4, none⟩ = some (.int .i64 a0_4) := (blk_cell BK220.out 4).trans rfl; have hcz62_5 : w61.cell? ⟨gb220, 5, none⟩ = some (.int .i64 a0_5) := (blk_cell BK220.out 5).trans rfl; have hcz62_6 : w61.cell? ⟨gb220, 6, none⟩ = some (.bool a0_6) := (blk_cell BK220.out 6).trans rfl; have hfz62_0 := blk_frozen BK220.out 0; have hfz62_1 := blk_frozen BK220.out 1; have hfz62_2 := blk_frozen BK220.out 2; have hfz62_3 := blk_frozen BK220.out 3; have hfz62_4 := blk_frozen BK220.out 4; have hfz62_5 := blk_frozen BK220.out 5; have hfz62_6 := blk_frozen BK220.out 6) | ((with_reducible refine gate_callee (f := 11) rfl ?_); refine goesL_ (some 92) rfl rfl Try.func11 (by kernel_rfl) rfl #[.agg #[.int .i64 a0_0, .int .i64 a0_1, .int .i64 a0_2, .int .i64 a0_3, .int .i64 a0_4, .int .i64 a0_5, .bool a0_6], .int .i64 (wrap64 (a1 - 1)), .int .i64 a2] rfl (by (try simp only [List.map_toArray, List.map_cons, List.map_nil]); first | done | rfl | (simp only [List.length_drop, List.length_take]; rfl)) ?_; (with_reducible refine (size_CallPrograms.calls kj39 a0_0 a0_1 a0_2 a0_3 a0_4 a0_5 a0_6 (wrap64 (a1 - 1)) a2 t238 t239 _ A52.out).mono ?_); rintro e w63 ⟨rfl, hb⟩; refine ⟨_, rfl, ?_⟩; have n0_ := Aside0.mk (blk_below (g := gb220) (o := .cells #[.int .i64 a0_0, .int .i64 a0_1, .int .i64 a0_2, .int .i64 a0_3, .int .i64 a0_4, .int .i64 a0_5, .bool a0_6] 29 (0, 0)) (by (with_reducible repeat (first | refine blk_drewN ?_ _ | refine blk_drew ?_ | refine blk_alloc ?_ _)); exact BK220.out) hb); have n1_ := Aside0.mk (blk_below (g := gb234) (o := .cells #[.int .i64 t222, .int .i64 t223, .int .i64 t224, .int .i64 t225, .int .i64 t226, .int .i64 t227, .int .i64 t228, .int .i64 t229, .int .i64 t230, .int .i64 t231, .int .i64 t232] 24 (0, 0)) (by (with_reducible repeat (first | refine blk_drewN ?_ _ | refine blk_drew ?_ | refine blk_alloc ?_ _)); exact BK234.out) hb); have n2_ := Aside0.mk (below_step (by repeat (first | (with_reducible first | exact HB.out | apply below_alloc | apply pw_below_drewN | apply below_drew1 | refine below_set ?_ GE220.out | refine below_set ?_ GE234.out) | exact HB.out)) hb); clear BK220; clear BK234; clear HB; have BK220 := n0_; have BK234 := n1_; have HB := n2_; clear n0_ n1_ n2_; (try clear hb); (try clear hb2); (try clear hk); (try clear hi); have hcz64_0 : w63.cell? ⟨gb220, 0, none⟩ = some (.int .i64 a0_0) := (blk_cell BK220.out 0).trans rfl; have hcz64_1 : w63.cell? ⟨gb220, 1, none⟩ = some (.int .i64 a0_1) := (blk_cell BK220.out 1).trans rfl; have hcz64_2 : w63.cell? ⟨gb220, 2, none⟩ = some (.int .i64 a0_2) := (blk_cell BK220.out 2).trans rfl; have hcz64_3 : w63.cell? ⟨gb220, 3, none⟩ = some (.int .i64 a0_3) := (blk_cell BK220.out 3).trans rfl; have hcz64_4 : w63.cell? ⟨gb220, 4, none⟩ = some (.int .i64 a0_4) := (blk_cell BK220.out 4).trans rfl; have hcz64_5 : w63.cell? ⟨gb220, 5, none⟩ = some (.int .i64 a0_5) := (blk_cell BK220.out 5).trans rfl; have hcz64_6 : w63.cell? ⟨gb220, 6, none⟩ = some (.bool a0_6) := (blk_cell BK220.out 6).trans rfl; have hfz64_0 := blk_frozen BK220.out 0; have hfz64_1 := blk_frozen BK220.out 1; have hfz64_2 := blk_frozen BK220.out 2; have hfz64_3 := blk_frozen BK220.out 3; have hfz64_4 := blk_frozen BK220.out 4; have hfz64_5 := blk_frozen BK220.out 5; have hfz64_6 := blk_frozen BK220.out 6) | ((with_reducible refine gate_callee (f := 11) rfl ?_); refine goesL_ (some 100) rfl rfl Try.func11 (by kernel_rfl) rfl #[.agg #[.int .i64 a0_0, .int .i64 a0_1, .int .i64 a0_2, .int .i64 a0_3, .int .i64 a0_4, .int .i64 a0_5, .bool a0_6], .int .i64 a1, .int .i64 (wrap64 (a2 - 1))] rfl (by (try simp only [List.map_toArray, List.map_cons, List.map_nil]); first | done | rfl | (simp only [List.length_drop, List.length_take]; rfl)) ?_; (with_reducible refine (size_CallPrograms.calls kj39 a0_0 a0_1 a0_2 a0_3 a0_4 a0_5 a0_6 a1 (wrap64 (a2 - 1)) t240 t241 _ A53.out).mono ?_); rintro e w65 ⟨rfl, hb⟩; refine ⟨_, rfl, ?_⟩; have n0_ := Aside0.mk (blk_below (g := gb220) (o := .cells #[.int .i64 a0_0, .int .i64 a0_1, .int .i64 a0_2, .int .i64 a0_3, .int .i64 a0_4, .int .i64 a0_5, .bool a0_6] 29 (0, 0)) (by (with_reducible repeat (first | refine blk_drewN ?_ _ | refine blk_drew ?_ | refine blk_alloc ?_ _)); exact BK220.out) hb); have n1_ := Aside0.mk (blk_below (g := gb234) (o := .cells #[.int .i64 t222, .int .i64 t223, .int .i64 t224, .int .i64 t225, .int .i64 t226, .int .i64 t227, .int .i64 t228, .int .i64 t229, .int .i64 t230, .int .i64 t231, .int .i64 t232] 24 (0, 0)) (by (with_reducible repeat (first | refine blk_drewN ?_ _ | refine blk_drew ?_ | refine blk_alloc ?_ _)); exact BK234.out) hb); have n2_ := Aside0.mk (below_step (by repeat (first | (with_reducible first | exact HB.out | apply below_alloc | apply pw_below_drewN | apply below_drew1 | refine below_set ?_ GE220.out | refine below_set ?_ GE234.out) | exact HB.out)) hb); clear BK220; clear BK234; clear HB; have BK220 := n0_; have BK234 := n1_; have HB := n2_; clear n0_ n1_ n2_; (try clear hb); (try clear hb2); (try clear hk); (try clear hi)))
                            go_ret
                            exact ⟨by first | rfl | (simp [errW_none, errW_some] <;> rfl) | (simp [*, errW_none, errW_some] <;> rfl), by repeat (first | (with_reducible first | exact HB.out | apply below_alloc | apply pw_below_drewN | apply below_drew1 | refine below_set ?_ GE220.out | refine below_set ?_ GE234.out) | exact HB.out)⟩
                          · rw [if_neg c58] at H
                            have c58b0 : decide (t240 < t236) = false := decide_eq_false c58
                            clear c58
                            obtain rfl := Option.some.inj H
                            have hnb66 := NB220_234.out
                            have hnc66 := NB234_220.out
                            have hcz67_0 : wc.cell? ⟨gb220, 0, none⟩ = some (.int .i64 a0_0) := (blk_cell BK220.out 0).trans rfl
                            have hcz67_1 : wc.cell? ⟨gb220, 1, none⟩ = some (.int .i64 a0_1) := (blk_cell BK220.out 1).trans rfl
                            have hcz67_2 : wc.cell? ⟨gb220, 2, none⟩ = some (.int .i64 a0_2) := (blk_cell BK220.out 2).trans rfl
                            have hcz67_3 : wc.cell? ⟨gb220, 3, none⟩ = some (.int .i64 a0_3) := (blk_cell BK220.out 3).trans rfl
                            have hcz67_4 : wc.cell? ⟨gb220, 4, none⟩ = some (.int .i64 a0_4) := (blk_cell BK220.out 4).trans rfl
                            have hcz67_5 : wc.cell? ⟨gb220, 5, none⟩ = some (.int .i64 a0_5) := (blk_cell BK220.out 5).trans rfl
                            have hcz67_6 : wc.cell? ⟨gb220, 6, none⟩ = some (.bool a0_6) := (blk_cell BK220.out 6).trans rfl
                            have hfz67_0 := blk_frozen BK220.out 0
                            have hfz67_1 := blk_frozen BK220.out 1
                            have hfz67_2 := blk_frozen BK220.out 2
                            have hfz67_3 := blk_frozen BK220.out 3
                            have hfz67_4 := blk_frozen BK220.out 4
                            have hfz67_5 := blk_frozen BK220.out 5
                            have hfz67_6 := blk_frozen BK220.out 6
                            go_wp2_with (first | ((with_reducible refine gate_callee (f := 11) rfl ?_); refine goesL_ (some 84) rfl rfl Try.func11 (by kernel_rfl) rfl #[.agg #[.int .i64 a0_0, .int .i64 a0_1, .int .i64 a0_2, .int .i64 a0_3, .int .i64 a0_4, .int .i64 a0_5, .bool a0_6], .int .i64 a1, .int .i64 a2] rfl (by (try simp only [List.map_toArray, List.map_cons, List.map_nil]); first | done | rfl | (simp only [List.length_drop, List.length_take]; rfl)) ?_; (with_reducible refine (size_CallPrograms.calls kj39 a0_0 a0_1 a0_2 a0_3 a0_4 a0_5 a0_6 a1 a2 t236 t237 _ A51.out).mono ?_); rintro e w68 ⟨rfl, hb⟩; refine ⟨_, rfl, ?_⟩; have n0_ := Aside0.mk (blk_below (g := gb220) (o := .cells #[.int .i64 a0_0, .int .i64 a0_1, .int .i64 a0_2, .int .i64 a0_3, .int .i64 a0_4, .int .i64 a0_5, .bool a0_6] 29 (0, 0)) (by (with_reducible repeat (first | refine blk_drewN ?_ _ | refine blk_drew ?_ | refine blk_alloc ?_ _)); exact BK220.out) hb); have n1_ := Aside0.mk (blk_below (g := gb234) (o := .cells #[.int .i64 t222, .int .i64 t223, .int .i64 t224, .int .i64 t225, .int .i64 t226, .int .i64 t227, .int .i64 t228, .int .i64 t229, .int .i64 t230, .int .i64 t231, .int .i64 t232] 24 (0, 0)) (by (with_reducible repeat (first | refine blk_drewN ?_ _ | refine blk_drew ?_ | refine blk_alloc ?_ _)); exact BK234.out) hb); have n2_ := Aside0.mk (below_step (by repeat (first | (with_reducible first | exact HB.out | apply below_alloc | apply pw_below_drewN | apply below_drew1 | refine below_set ?_ GE220.out | refine below_set ?_ GE234.out) | exact HB.out)) hb); clear BK220; clear BK234; clear HB; have BK220 := n0_; have BK234 := n1_; have HB := n2_; clear n0_ n1_ n2_; (try clear hb); (try clear hb2); (try clear hk); (try clear hi); have hcz69_0 : w68.cell? ⟨gb220, 0, none⟩ = some (.int .i64 a0_0) := (blk_cell BK220.out 0).trans rfl; have hcz69_1 : w68.cell? ⟨gb220, 1, none⟩ = some (.int .i64 a0_1) := (blk_cell BK220.out 1).trans rfl; have hcz69_2 : w68.cell? ⟨gb220, 2, none⟩ = some (.int .i64 a0_2) := (blk_cell BK220.out 2).trans rfl; have hcz69_3 : w68.cell? ⟨gb220, 3, none⟩ = some (.int .i64 a0_3) := (blk_cell BK220.out 3).trans rfl; have hcz69_4 : w68.cell? ⟨gb220, 4, none⟩ = some (.int .i64 a0_4) := (blk_cell BK220.out 4).trans rfl; have hcz69_5 : w68.cell? ⟨gb220, 5, none⟩ = some (.int .i64 a0_5) := (blk_cell BK220.out 5).trans rfl; have hcz69_6 : w68.cell? ⟨gb220, 6, none⟩ = some (.bool a0_6) := (blk_cell BK220.out 6).trans rfl; have hfz69_0 := blk_frozen BK220.out 0; have hfz69_1 := blk_frozen BK220.out 1; have hfz69_2 := blk_frozen BK220.out 2; have hfz69_3 := blk_frozen BK220.out 3; have hfz69_4 := blk_frozen BK220.out 4; have hfz69_5 := blk_frozen BK220.out 5; have hfz69_6 := blk_frozen BK220.out 6) | ((with_reducible refine gate_callee (f := 11) rfl ?_); refine goesL_ (some 92) rfl rfl Try.func11 (by kernel_rfl) rfl #[.agg #[.int .i64 a0_0, .int .i64 a0_1, .int .i64 a0_2, .int .i64 a0_3, .int .i64 a0_4, .int .i64 a0_5, .bool a0_6], .int .i64 (wrap64 (a1 - 1)), .int .i64 a2] rfl (by (try simp only [List.map_toArray, List.map_cons, List.map_nil]); first | done | rfl | (simp only [List.length_drop, List.length_take]; rfl)) ?_; (with_reducible refine (size_CallPrograms.calls kj39 a0_0 a0_1 a0_2 a0_3 a0_4 a0_5 a0_6 (wrap64 (a1 - 1)) a2 t238 t239 _ A52.out).mono ?_); rintro e w70 ⟨rfl, hb⟩; refine ⟨_, rfl, ?_⟩; have n0_ := Aside0.mk (blk_below (g := gb220) (o := .cells #[.int .i64 a0_0, .int .i64 a0_1, .int .i64 a0_2, .int .i64 a0_3, .int .i64 a0_4, .int .i64 a0_5, .bool a0_6] 29 (0, 0)) (by (with_reducible repeat (first | refine blk_drewN ?_ _ | refine blk_drew ?_ | refine blk_alloc ?_ _)); exact BK220.out) hb); have n1_ := Aside0.mk (blk_below (g := gb234) (o := .cells #[.int .i64 t222, .int .i64 t223, .int .i64 t224, .int .i64 t225, .int .i64 t226, .int .i64 t227, .int .i64 t228, .int .i64 t229, .int .i64 t230, .int .i64 t231, .int .i64 t232] 24 (0, 0)) (by (with_reducible repeat (first | refine blk_drewN ?_ _ | refine blk_drew ?_ | refine blk_alloc ?_ _)); exact BK234.out) hb); have n2_ := Aside0.mk (below_step (by repeat (first | (with_reducible first | exact HB.out | apply below_alloc | apply pw_below_drewN | apply below_drew1 | refine below_set ?_ GE220.out | refine below_set ?_ GE234.out) | exact HB.out)) hb); clear BK220; clear BK234; clear HB; have BK220 := n0_; have BK234 := n1_; have HB := n2_; clear n0_ n1_ n2_; (try clear hb); (try clear hb2); (try clear hk); (try clear hi); have hcz71_0 : w70.cell? ⟨gb220, 0, none⟩ = some (.int .i64 a0_0) := (blk_cell BK220.out 0).trans rfl; have hcz71_1 : w70.cell? ⟨gb220, 1, none⟩ = some (.int .i64 a0_1) := (blk_cell BK220.out 1).trans rfl; have hcz71_2 : w70.cell? ⟨gb220, 2, none⟩ = some (.int .i64 a0_2) := (blk_cell BK220.out 2).trans rfl; have hcz71_3 : w70.cell? ⟨gb220, 3, none⟩ = some (.int .i64 a0_3) := (blk_cell BK220.out 3).trans rfl; have hcz71_4 : w70.cell? ⟨gb220, 4, none⟩ = some (.int .i64 a0_4) := (blk_cell BK220.out 4).trans rfl; have hcz71_5 : w70.cell? ⟨gb220, 5, none⟩ = some (.int .i64 a0_5) := (blk_cell BK220.out 5).trans rfl; have hcz71_6 : w70.cell? ⟨gb220, 6, none⟩ = some (.bool a0_6) := (blk_cell BK220.out 6).trans rfl; have hfz71_0 := blk_frozen BK220.out 0; have hfz71_1 := blk_frozen BK220.out 1; have hfz71_2 := blk_frozen BK220.out 2; have hfz71_3 := blk_frozen BK220.out 3; have hfz71_4 := blk_frozen BK220.out 4; have hfz71_5 := blk_frozen BK220.out 5; have hfz71_6 := blk_frozen BK220.out 6) | ((with_reducible refine gate_callee (f := 11) rfl ?_); refine goesL_ (some 100) rfl rfl Try.func11 (by kernel_rfl) rfl #[.agg #[.int .i64 a0_0, .int .i64 a0_1, .int .i64 a0_2, .int .i64 a0_3, .int .i64 a0_4, .int .i64 a0_5, .bool a0_6], .int .i64 a1, .int .i64 (wrap64 (a2 - 1))] rfl (by (try simp only [List.map_toArray, List.map_cons, List.map_nil]); first | done | rfl | (simp only [List.length_drop, List.length_take]; rfl)) ?_; (with_reducible refine (size_CallPrograms.calls kj39 a0_0 a0_1 a0_2 a0_3 a0_4 a0_5 a0_6 a1 (wrap64 (a2 - 1)) t240 t241 _ A53.out).mono ?_); rintro e w72 ⟨rfl, hb⟩; refine ⟨_, rfl, ?_⟩; have n0_ := Aside0.mk (blk_below (g := gb220) (o := .cells #[.int .i64 a0_0, .int .i64 a0_1, .int .i64 a0_2, .int .i64 a0_3, .int .i64 a0_4, .int .i64 a0_5, .bool a0_6] 29 (0, 0)) (by (with_reducible repeat (first | refine blk_drewN ?_ _ | refine blk_drew ?_ | refine blk_alloc ?_ _)); exact BK220.out) hb); have n1_ := Aside0.mk (blk_below (g := gb234) (o := .cells #[.int .i64 t222, .int .i64 t223, .int .i64 t224, .int .i64 t225, .int .i64 t226, .int .i64 t227, .int .i64 t228, .int .i64 t229, .int .i64 t230, .int .i64 t231, .int .i64 t232] 24 (0, 0)) (by (with_reducible repeat (first | refine blk_drewN ?_ _ | refine blk_drew ?_ | refine blk_alloc ?_ _)); exact BK234.out) hb); have n2_ := Aside0.mk (below_step (by repeat (first | (with_reducible first | exact HB.out | apply below_alloc | apply pw_below_drewN | apply below_drew1 | refine below_set ?_ GE220.out | refine below_set ?_ GE234.out) | exact HB.out)) hb); clear BK220; clear BK234; clear HB; have BK220 := n0_; have BK234 := n1_; have HB := n2_; clear n0_ n1_ n2_; (try clear hb); (try clear hb2); (try clear hk); (try clear hi)))
                            go_ret
                            exact ⟨by first | rfl | (simp [errW_none, errW_some] <;> rfl) | (simp [*, errW_none, errW_some] <;> rfl), by repeat (first | (with_reducible first | exact HB.out | apply below_alloc | apply pw_below_drewN | apply below_drew1 | refine below_set ?_ GE220.out | refine below_set ?_ GE234.out) | exact HB.out)⟩
                        · rw [if_neg c57] at H
                          have c57b0 : decide (t238 < t236) = false := decide_eq_false c57
                          clear c57
                          obtain rfl := Option.some.inj H
                          have hnb73 := NB220_234.out
                          have hnc73 := NB234_220.out
                          have hcz74_0 : wc.cell? ⟨gb220, 0, none⟩ = some (.int .i64 a0_0) := (blk_cell BK220.out 0).trans rfl
                          have hcz74_1 : wc.cell? ⟨gb220, 1, none⟩ = some (.int .i64 a0_1) := (blk_cell BK220.out 1).trans rfl
                          have hcz74_2 : wc.cell? ⟨gb220, 2, none⟩ = some (.int .i64 a0_2) := (blk_cell BK220.out 2).trans rfl
                          have hcz74_3 : wc.cell? ⟨gb220, 3, none⟩ = some (.int .i64 a0_3) := (blk_cell BK220.out 3).trans rfl
                          have hcz74_4 : wc.cell? ⟨gb220, 4, none⟩ = some (.int .i64 a0_4) := (blk_cell BK220.out 4).trans rfl
                          have hcz74_5 : wc.cell? ⟨gb220, 5, none⟩ = some (.int .i64 a0_5) := (blk_cell BK220.out 5).trans rfl
                          have hcz74_6 : wc.cell? ⟨gb220, 6, none⟩ = some (.bool a0_6) := (blk_cell BK220.out 6).trans rfl
                          have hfz74_0 := blk_frozen BK220.out 0
                          have hfz74_1 := blk_frozen BK220.out 1
                          have hfz74_2 := blk_frozen BK220.out 2
                          have hfz74_3 := blk_frozen BK220.out 3
                          have hfz74_4 := blk_frozen BK220.out 4
                          have hfz74_5 := blk_frozen BK220.out 5
                          have hfz74_6 := blk_frozen BK220.out 6
                          go_wp2_with (first | ((with_reducible refine gate_callee (f := 11) rfl ?_); refine goesL_ (some 84) rfl rfl Try.func11 (by kernel_rfl) rfl #[.agg #[.int .i64 a0_0, .int .i64 a0_1, .int .i64 a0_2, .int .i64 a0_3, .int .i64 a0_4, .int .i64 a0_5, .bool a0_6], .int .i64 a1, .int .i64 a2] rfl (by (try simp only [List.map_toArray, List.map_cons, List.map_nil]); first | done | rfl | (simp only [List.length_drop, List.length_take]; rfl)) ?_; (with_reducible refine (size_CallPrograms.calls kj39 a0_0 a0_1 a0_2 a0_3 a0_4 a0_5 a0_6 a1 a2 t236 t237 _ A51.out).mono ?_); rintro e w75 ⟨rfl, hb⟩; refine ⟨_, rfl, ?_⟩; have n0_ := Aside0.mk (blk_below (g := gb220) (o := .cells #[.int .i64 a0_0, .int .i64 a0_1, .int .i64 a0_2, .int .i64 a0_3, .int .i64 a0_4, .int .i64 a0_5, .bool a0_6] 29 (0, 0)) (by (with_reducible repeat (first | refine blk_drewN ?_ _ | refine blk_drew ?_ | refine blk_alloc ?_ _)); exact BK220.out) hb); have n1_ := Aside0.mk (blk_below (g := gb234) (o := .cells #[.int .i64 t222, .int .i64 t223, .int .i64 t224, .int .i64 t225, .int .i64 t226, .int .i64 t227, .int .i64 t228, .int .i64 t229, .int .i64 t230, .int .i64 t231, .int .i64 t232] 24 (0, 0)) (by (with_reducible repeat (first | refine blk_drewN ?_ _ | refine blk_drew ?_ | refine blk_alloc ?_ _)); exact BK234.out) hb); have n2_ := Aside0.mk (below_step (by repeat (first | (with_reducible first | exact HB.out | apply below_alloc | apply pw_below_drewN | apply below_drew1 | refine below_set ?_ GE220.out | refine below_set ?_ GE234.out) | exact HB.out)) hb); clear BK220; clear BK234; clear HB; have BK220 := n0_; have BK234 := n1_; have HB := n2_; clear n0_ n1_ n2_; (try clear hb); (try clear hb2); (try clear hk); (try clear hi); have hcz76_0 : w75.cell? ⟨gb220, 0, none⟩ = some (.int .i64 a0_0) := (blk_cell BK220.out 0).trans rfl; have hcz76_1 : w75.cell? ⟨gb220, 1, none⟩ = some (.int .i64 a0_1) := (blk_cell BK220.out 1).trans rfl; have hcz76_2 : w75.cell? ⟨gb220, 2, none⟩ = some (.int .i64 a0_2) := (blk_cell BK220.out 2).trans rfl; have hcz76_3 : w75.cell? ⟨gb220, 3, none⟩ = some (.int .i64 a0_3) := (blk_cell BK220.out 3).trans rfl; have hcz76_4 : w75.cell? ⟨gb220, 4, none⟩ = some (.int .i64 a0_4) := (blk_cell BK220.out 4).trans rfl; have hcz76_5 : w75.cell? ⟨gb220, 5, none⟩ = some (.int .i64 a0_5) := (blk_cell BK220.out 5).trans rfl; have hcz76_6 : w75.cell? ⟨gb220, 6, none⟩ = some (.bool a0_6) := (blk_cell BK220.out 6).trans rfl; have hfz76_0 := blk_frozen BK220.out 0; have hfz76_1 := blk_frozen BK220.out 1; have hfz76_2 := blk_frozen BK220.out 2; have hfz76_3 := blk_frozen BK220.out 3; have hfz76_4 := blk_frozen BK220.out 4; have hfz76_5 := blk_frozen BK220.out 5; have hfz76_6 := blk_frozen BK220.out 6) | ((with_reducible refine gate_callee (f := 11) rfl ?_); refine goesL_ (some 92) rfl rfl Try.func11 (by kernel_rfl) rfl #[.agg #[.int .i64 a0_0, .int .i64 a0_1, .int .i64 a0_2, .int .i64 a0_3, .int .i64 a0_4, .int .i64 a0_5, .bool a0_6], .int .i64 (wrap64 (a1 - 1)), .int .i64 a2] rfl (by (try simp only [List.map_toArray, List.map_cons, List.map_nil]); first | done | rfl | (simp only [List.length_drop, List.length_take]; rfl)) ?_; (with_reducible refine (size_CallPrograms.calls kj39 a0_0 a0_1 a0_2 a0_3 a0_4 a0_5 a0_6 (wrap64 (a1 - 1)) a2 t238 t239 _ A52.out).mono ?_); rintro e w77 ⟨rfl, hb⟩; refine ⟨_, rfl, ?_⟩; have n0_ := Aside0.mk (blk_below (g := gb220) (o := .cells #[.int .i64 a0_0, .int .i64 a0_1, .int .i64 a0_2, .int .i64 a0_3, .int .i64 a0_4, .int .i64 a0_5, .bool a0_6] 29 (0, 0)) (by (with_reducible repeat (first | refine blk_drewN ?_ _ | refine blk_drew ?_ | refine blk_alloc ?_ _)); exact BK220.out) hb); have n1_ := Aside0.mk (blk_below (g := gb234) (o := .cells #[.int .i64 t222, .int .i64 t223, .int .i64 t224, .int .i64 t225, .int .i64 t226, .int .i64 t227, .int .i64 t228, .int .i64 t229, .int .i64 t230, .int .i64 t231, .int .i64 t232] 24 (0, 0)) (by (with_reducible repeat (first | refine blk_drewN ?_ _ | refine blk_drew ?_ | refine blk_alloc ?_ _)); exact BK234.out) hb); have n2_ := Aside0.mk (below_step (by repeat (first | (with_reducible first | exact HB.out | apply below_alloc | apply pw_below_drewN | apply below_drew1 | refine below_set ?_ GE220.out | refine below_set ?_ GE234.out) | exact HB.out)) hb); clear BK220; clear BK234; clear HB; have BK220 := n0_; have BK234 := n1_; have HB := n2_; clear n0_ n1_ n2_; (try clear hb); (try clear hb2); (try clear hk); (try clear hi); have hcz78_0 : w77.cell? ⟨gb220, 0, none⟩ = some (.int .i64 a0_0) := (blk_cell BK220.out 0).trans rfl; have hcz78_1 : w77.cell? ⟨gb220, 1, none⟩ = some (.int .i64 a0_1) := (blk_cell BK220.out 1).trans rfl; have hcz78_2 : w77.cell? ⟨gb220, 2, none⟩ = some (.int .i64 a0_2) := (blk_cell BK220.out 2).trans rfl; have hcz78_3 : w77.cell? ⟨gb220, 3, none⟩ = some (.int .i64 a0_3) := (blk_cell BK220.out 3).trans rfl; have hcz78_4 : w77.cell? ⟨gb220, 4, none⟩ = some (.int .i64 a0_4) := (blk_cell BK220.out 4).trans rfl; have hcz78_5 : w77.cell? ⟨gb220, 5, none⟩ = some (.int .i64 a0_5) := (blk_cell BK220.out 5).trans rfl; have hcz78_6 : w77.cell? ⟨gb220, 6, none⟩ = some (.bool a0_6) := (blk_cell BK220.out 6).trans rfl; have hfz78_0 := blk_frozen BK220.out 0; have hfz78_1 := blk_frozen BK220.out 1; have hfz78_2 := blk_frozen BK220.out 2; have hfz78_3 := blk_frozen BK220.out 3; have hfz78_4 := blk_frozen BK220.out 4; have hfz78_5 := blk_frozen BK220.out 5; have hfz78_6 := blk_frozen BK220.out 6) | ((with_reducible refine gate_callee (f := 11) rfl ?_); refine goesL_ (some 100) rfl rfl Try.func11 (by kernel_rfl) rfl #[.agg #[.int .i64 a0_0, .int .i64 a0_1, .int .i64 a0_2, .int .i64 a0_3, .int .i64 a0_4, .int .i64 a0_5, .bool a0_6], .int .i64 a1, .int .i64 (wrap64 (a2 - 1))] rfl (by (try simp only [List.map_toArray, List.map_cons, List.map_nil]); first | done | rfl | (simp only [List.length_drop, List.length_take]; rfl)) ?_; (with_reducible refine (size_CallPrograms.calls kj39 a0_0 a0_1 a0_2 a0_3 a0_4 a0_5 a0_6 a1 (wrap64 (a2 - 1)) t240 t241 _ A53.out).mono ?_); rintro e w79 ⟨rfl, hb⟩; refine ⟨_, rfl, ?_⟩; have n0_ := Aside0.mk (blk_below (g := gb220) (o := .cells #[.int .i64 a0_0, .int .i64 a0_1, .int .i64 a0_2, .int .i64 a0_3, .int .i64 a0_4, .int .i64 a0_5, .bool a0_6] 29 (0, 0)) (by (with_reducible repeat (first | refine blk_drewN ?_ _ | refine blk_drew ?_ | refine blk_alloc ?_ _)); exact BK220.out) hb); have n1_ := Aside0.mk (blk_below (g := gb234) (o := .cells #[.int .i64 t222, .int .i64 t223, .int .i64 t224, .int .i64 t225, .int .i64 t226, .int .i64 t227, .int .i64 t228, .int .i64 t229, .int .i64 t230, .int .i64 t231, .int .i64 t232] 24 (0, 0)) (by (with_reducible repeat (first | refine blk_drewN ?_ _ | refine blk_drew ?_ | refine blk_alloc ?_ _)); exact BK234.out) hb); have n2_ := Aside0.mk (below_step (by repeat (first | (with_reducible first | exact HB.out | apply below_alloc | apply pw_below_drewN | apply below_drew1 | refine below_set ?_ GE220.out | refine below_set ?_ GE234.out) | exact HB.out)) hb); clear BK220; clear BK234; clear HB; have BK220 := n0_; have BK234 := n1_; have HB := n2_; clear n0_ n1_ n2_; (try clear hb); (try clear hb2); (try clear hk); (try clear hi)))
                          go_ret
                          exact ⟨by first | rfl | (simp [errW_none, errW_some] <;> rfl) | (simp [*, errW_none, errW_some] <;> rfl), by repeat (first | (with_reducible first | exact HB.out | apply below_alloc | apply pw_below_drewN | apply below_drew1 | refine below_set ?_ GE220.out | refine below_set ?_ GE234.out) | exact HB.out)⟩
                      · rw [if_neg c56] at H
                        have c56b0 : (t241 == 0) = false := beq_eq_false_iff_ne.mpr c56
                        have c56b1 : (t241 != 0) = true := bne_iff_ne.mpr c56
                        obtain rfl := Option.some.inj H
                        have hnb80 := NB220_234.out
                        have hnc80 := NB234_220.out
                        have hcz81_0 : wc.cell? ⟨gb220, 0, none⟩ = some (.int .i64 a0_0) := (blk_cell BK220.out 0).trans rfl
                        have hcz81_1 : wc.cell? ⟨gb220, 1, none⟩ = some (.int .i64 a0_1) := (blk_cell BK220.out 1).trans rfl
                        have hcz81_2 : wc.cell? ⟨gb220, 2, none⟩ = some (.int .i64 a0_2) := (blk_cell BK220.out 2).trans rfl
                        have hcz81_3 : wc.cell? ⟨gb220, 3, none⟩ = some (.int .i64 a0_3) := (blk_cell BK220.out 3).trans rfl
                        have hcz81_4 : wc.cell? ⟨gb220, 4, none⟩ = some (.int .i64 a0_4) := (blk_cell BK220.out 4).trans rfl
                        have hcz81_5 : wc.cell? ⟨gb220, 5, none⟩ = some (.int .i64 a0_5) := (blk_cell BK220.out 5).trans rfl
                        have hcz81_6 : wc.cell? ⟨gb220, 6, none⟩ = some (.bool a0_6) := (blk_cell BK220.out 6).trans rfl
                        have hfz81_0 := blk_frozen BK220.out 0
                        have hfz81_1 := blk_frozen BK220.out 1
                        have hfz81_2 := blk_frozen BK220.out 2
                        have hfz81_3 := blk_frozen BK220.out 3
                        have hfz81_4 := blk_frozen BK220.out 4
                        have hfz81_5 := blk_frozen BK220.out 5
                        have hfz81_6 := blk_frozen BK220.out 6
                        go_wp2_with (first | ((with_reducible refine gate_callee (f := 11) rfl ?_); refine goesL_ (some 84) rfl rfl Try.func11 (by kernel_rfl) rfl #[.agg #[.int .i64 a0_0, .int .i64 a0_1, .int .i64 a0_2, .int .i64 a0_3, .int .i64 a0_4, .int .i64 a0_5, .bool a0_6], .int .i64 a1, .int .i64 a2] rfl (by (try simp only [List.map_toArray, List.map_cons, List.map_nil]); first | done | rfl | (simp only [List.length_drop, List.length_take]; rfl)) ?_; (with_reducible refine (size_CallPrograms.calls kj39 a0_0 a0_1 a0_2 a0_3 a0_4 a0_5 a0_6 a1 a2 t236 t237 _ A51.out).mono ?_); rintro e w82 ⟨rfl, hb⟩; refine ⟨_, rfl, ?_⟩; have n0_ := Aside0.mk (blk_below (g := gb220) (o := .cells #[.int .i64 a0_0, .int .i64 a0_1, .int .i64 a0_2, .int .i64 a0_3, .int .i64 a0_4, .int .i64 a0_5, .bool a0_6] 29 (0, 0)) (by (with_reducible repeat (first | refine blk_drewN ?_ _ | refine blk_drew ?_ | refine blk_alloc ?_ _)); exact BK220.out) hb); have n1_ := Aside0.mk (blk_below (g := gb234) (o := .cells #[.int .i64 t222, .int .i64 t223, .int .i64 t224, .int .i64 t225, .int .i64 t226, .int .i64 t227, .int .i64 t228, .int .i64 t229, .int .i64 t230, .int .i64 t231, .int .i64 t232] 24 (0, 0)) (by (with_reducible repeat (first | refine blk_drewN ?_ _ | refine blk_drew ?_ | refine blk_alloc ?_ _)); exact BK234.out) hb); have n2_ := Aside0.mk (below_step (by repeat (first | (with_reducible first | exact HB.out | apply below_alloc | apply pw_below_drewN | apply below_drew1 | refine below_set ?_ GE220.out | refine below_set ?_ GE234.out) | exact HB.out)) hb); clear BK220; clear BK234; clear HB; have BK220 := n0_; have BK234 := n1_; have HB := n2_; clear n0_ n1_ n2_; (try clear hb); (try clear hb2); (try clear hk); (try clear hi); have hcz83_0 : w82.cell? ⟨gb220, 0, none⟩ = some (.int .i64 a0_0) := (blk_cell BK220.out 0).trans rfl; have hcz83_1 : w82.cell? ⟨gb220, 1, none⟩ = some (.int .i64 a0_1) := (blk_cell BK220.out 1).trans rfl; have hcz83_2 : w82.cell? ⟨gb220, 2, none⟩ = some (.int .i64 a0_2) := (blk_cell BK220.out 2).trans rfl; have hcz83_3 : w82.cell? ⟨gb220, 3, none⟩ = some (.int .i64 a0_3) := (blk_cell BK220.out 3).trans rfl; have hcz83_4 : w82.cell? ⟨gb220, 4, none⟩ = some (.int .i64 a0_4) := (blk_cell BK220.out 4).trans rfl; have hcz83_5 : w82.cell? ⟨gb220, 5, none⟩ = some (.int .i64 a0_5) := (blk_cell BK220.out 5).trans rfl; have hcz83_6 : w82.cell? ⟨gb220, 6, none⟩ = some (.bool a0_6) := (blk_cell BK220.out 6).trans rfl; have hfz83_0 := blk_frozen BK220.out 0; have hfz83_1 := blk_frozen BK220.out 1; have hfz83_2 := blk_frozen BK220.out 2; have hfz83_3 := blk_frozen BK220.out 3; have hfz83_4 := blk_frozen BK220.out 4; have hfz83_5 := blk_frozen BK220.out 5; have hfz83_6 := blk_frozen BK220.out 6) | ((with_reducible refine gate_callee (f := 11) rfl ?_); refine goesL_ (some 92) rfl rfl Try.func11 (by kernel_rfl) rfl #[.agg #[.int .i64 a0_0, .int .i64 a0_1, .int .i64 a0_2, .int .i64 a0_3, .int .i64 a0_4, .int .i64 a0_5, .bool a0_6], .int .i64 (wrap64 (a1 - 1)), .int .i64 a2] rfl (by (try simp only [List.map_toArray, List.map_cons, List.map_nil]); first | done | rfl | (simp only [List.length_drop, List.length_take]; rfl)) ?_; (with_reducible refine (size_CallPrograms.calls kj39 a0_0 a0_1 a0_2 a0_3 a0_4 a0_5 a0_6 (wrap64 (a1 - 1)) a2 t238 t239 _ A52.out).mono ?_); rintro e w84 ⟨rfl, hb⟩; refine ⟨_, rfl, ?_⟩; have n0_ := Aside0.mk (blk_below (g := gb220) (o := .cells #[.int .i64 a0_0, .int .i64 a0_1, .int .i64 a0_2, .int .i64 a0_3, .int .i64 a0_4, .int .i64 a0_5, .bool a0_6] 29 (0, 0)) (by (with_reducible repeat (first | refine blk_drewN ?_ _ | refine blk_drew ?_ | refine blk_alloc ?_ _)); exact BK220.out) hb); have n1_ := Aside0.mk (blk_below (g := gb234) (o := .cells #[.int .i64 t222, .int .i64 t223, .int .i64 t224, .int .i64 t225, .int .i64 t226, .int .i64 t227, .int .i64 t228, .int .i64 t229, .int .i64 t230, .int .i64 t231, .int .i64 t232] 24 (0, 0)) (by (with_reducible repeat (first | refine blk_drewN ?_ _ | refine blk_drew ?_ | refine blk_alloc ?_ _)); exact BK234.out) hb); have n2_ := Aside0.mk (below_step (by repeat (first | (with_reducible first | exact HB.out | apply below_alloc | apply pw_below_drewN | apply below_drew1 | refine below_set ?_ GE220.out | refine below_set ?_ GE234.out) | exact HB.out)) hb); clear BK220; clear BK234; clear HB; have BK220 := n0_; have BK234 := n1_; have HB := n2_; clear n0_ n1_ n2_; (try clear hb); (try clear hb2); (try clear hk); (try clear hi); have hcz85_0 : w84.cell? ⟨gb220, 0, none⟩ = some (.int .i64 a0_0) := (blk_cell BK220.out 0).trans rfl; have hcz85_1 : w84.cell? ⟨gb220, 1, none⟩ = some (.int .i64 a0_1) := (blk_cell BK220.out 1).trans rfl; have hcz85_2 : w84.cell? ⟨gb220, 2, none⟩ = some (.int .i64 a0_2) := (blk_cell BK220.out 2).trans rfl; have hcz85_3 : w84.cell? ⟨gb220, 3, none⟩ = some (.int .i64 a0_3) := (blk_cell BK220.out 3).trans rfl; have hcz85_4 : w84.cell? ⟨gb220, 4, none⟩ = some (.int .i64 a0_4) := (blk_cell BK220.out 4).trans rfl; have hcz85_5 : w84.cell? ⟨gb220, 5, none⟩ = some (.int .i64 a0_5) := (blk_cell BK220.out 5).trans rfl; have hcz85_6 : w84.cell? ⟨gb220, 6, none⟩ = some (.bool a0_6) := (blk_cell BK220.out 6).trans rfl; have hfz85_0 := blk_frozen BK220.out 0; have hfz85_1 := blk_frozen BK220.out 1; have hfz85_2 := blk_frozen BK220.out 2; have hfz85_3 := blk_frozen BK220.out 3; have hfz85_4 := blk_frozen BK220.out 4; have hfz85_5 := blk_frozen BK220.out 5; have hfz85_6 := blk_frozen BK220.out 6) | ((with_reducible refine gate_callee (f := 11) rfl ?_); refine goesL_ (some 100) rfl rfl Try.func11 (by kernel_rfl) rfl #[.agg #[.int .i64 a0_0, .int .i64 a0_1, .int .i64 a0_2, .int .i64 a0_3, .int .i64 a0_4, .int .i64 a0_5, .bool a0_6], .int .i64 a1, .int .i64 (wrap64 (a2 - 1))] rfl (by (try simp only [List.map_toArray, List.map_cons, List.map_nil]); first | done | rfl | (simp only [List.length_drop, List.length_take]; rfl)) ?_; (with_reducible refine (size_CallPrograms.calls kj39 a0_0 a0_1 a0_2 a0_3 a0_4 a0_5 a0_6 a1 (wrap64 (a2 - 1)) t240 t241 _ A53.out).mono ?_); rintro e w86 ⟨rfl, hb⟩; refine ⟨_, rfl, ?_⟩; have n0_ := Aside0.mk (blk_below (g := gb220) (o := .cells #[.int .i64 a0_0, .int .i64 a0_1, .int .i64 a0_2, .int .i64 a0_3, .int .i64 a0_4, .int .i64 a0_5, .bool a0_6] 29 (0, 0)) (by (with_reducible repeat (first | refine blk_drewN ?_ _ | refine blk_drew ?_ | refine blk_alloc ?_ _)); exact BK220.out) hb); have n1_ := Aside0.mk (blk_below (g := gb234) (o := .cells #[.int .i64 t222, .int .i64 t223, .int .i64 t224, .int .i64 t225, .int .i64 t226, .int .i64 t227, .int .i64 t228, .int .i64 t229, .int .i64 t230, .int .i64 t231, .int .i64 t232] 24 (0, 0)) (by (with_reducible repeat (first | refine blk_drewN ?_ _ | refine blk_drew ?_ | refine blk_alloc ?_ _)); exact BK234.out) hb); have n2_ := Aside0.mk (below_step (by repeat (first | (with_reducible first | exact HB.out | apply below_alloc | apply pw_below_drewN | apply below_drew1 | refine below_set ?_ GE220.out | refine below_set ?_ GE234.out) | exact HB.out)) hb); clear BK220; clear BK234; clear HB; have BK220 := n0_; have BK234 := n1_; have HB := n2_; clear n0_ n1_ n2_; (try clear hb); (try clear hb2); (try clear hk); (try clear hi)))
                        go_ret
                        exact ⟨by first | rfl | (simp [errW_none, errW_some] <;> rfl) | (simp [*, errW_none, errW_some] <;> rfl), by repeat (first | (with_reducible first | exact HB.out | apply below_alloc | apply pw_below_drewN | apply below_drew1 | refine below_set ?_ GE220.out | refine below_set ?_ GE234.out) | exact HB.out)⟩
                    · rw [if_neg c55] at H
                      have c55b0 : (t239 == 0) = false := beq_eq_false_iff_ne.mpr c55
                      have c55b1 : (t239 != 0) = true := bne_iff_ne.mpr c55
                      obtain rfl := Option.some.inj H
                      have hnb87 := NB220_234.out
                      have hnc87 := NB234_220.out
                      have hcz88_0 : wc.cell? ⟨gb220, 0, none⟩ = some (.int .i64 a0_0) := (blk_cell BK220.out 0).trans rfl
                      have hcz88_1 : wc.cell? ⟨gb220, 1, none⟩ = some (.int .i64 a0_1) := (blk_cell BK220.out 1).trans rfl
                      have hcz88_2 : wc.cell? ⟨gb220, 2, none⟩ = some (.int .i64 a0_2) := (blk_cell BK220.out 2).trans rfl
                      have hcz88_3 : wc.cell? ⟨gb220, 3, none⟩ = some (.int .i64 a0_3) := (blk_cell BK220.out 3).trans rfl
                      have hcz88_4 : wc.cell? ⟨gb220, 4, none⟩ = some (.int .i64 a0_4) := (blk_cell BK220.out 4).trans rfl
                      have hcz88_5 : wc.cell? ⟨gb220, 5, none⟩ = some (.int .i64 a0_5) := (blk_cell BK220.out 5).trans rfl
                      have hcz88_6 : wc.cell? ⟨gb220, 6, none⟩ = some (.bool a0_6) := (blk_cell BK220.out 6).trans rfl
                      have hfz88_0 := blk_frozen BK220.out 0
                      have hfz88_1 := blk_frozen BK220.out 1
                      have hfz88_2 := blk_frozen BK220.out 2
                      have hfz88_3 := blk_frozen BK220.out 3
                      have hfz88_4 := blk_frozen BK220.out 4
                      have hfz88_5 := blk_frozen BK220.out 5
                      have hfz88_6 := blk_frozen BK220.out 6
                      go_wp2_with (first | ((with_reducible refine gate_callee (f := 11) rfl ?_); refine goesL_ (some 84) rfl rfl Try.func11 (by kernel_rfl) rfl #[.agg #[.int .i64 a0_0, .int .i64 a0_1, .int .i64 a0_2, .int .i64 a0_3, .int .i64 a0_4, .int .i64 a0_5, .bool a0_6], .int .i64 a1, .int .i64 a2] rfl (by (try simp only [List.map_toArray, List.map_cons, List.map_nil]); first | done | rfl | (simp only [List.length_drop, List.length_take]; rfl)) ?_; (with_reducible refine (size_CallPrograms.calls kj39 a0_0 a0_1 a0_2 a0_3 a0_4 a0_5 a0_6 a1 a2 t236 t237 _ A51.out).mono ?_); rintro e w89 ⟨rfl, hb⟩; refine ⟨_, rfl, ?_⟩; have n0_ := Aside0.mk (blk_below (g := gb220) (o := .cells #[.int .i64 a0_0, .int .i64 a0_1, .int .i64 a0_2, .int .i64 a0_3, .int .i64 a0_4, .int .i64 a0_5, .bool a0_6] 29 (0, 0)) (by (with_reducible repeat (first | refine blk_drewN ?_ _ | refine blk_drew ?_ | refine blk_alloc ?_ _)); exact BK220.out) hb); have n1_ := Aside0.mk (blk_below (g := gb234) (o := .cells #[.int .i64 t222, .int .i64 t223, .int .i64 t224, .int .i64 t225, .int .i64 t226, .int .i64 t227, .int .i64 t228, .int .i64 t229, .int .i64 t230, .int .i64 t231, .int .i64 t232] 24 (0, 0)) (by (with_reducible repeat (first | refine blk_drewN ?_ _ | refine blk_drew ?_ | refine blk_alloc ?_ _)); exact BK234.out) hb); have n2_ := Aside0.mk (below_step (by repeat (first | (with_reducible first | exact HB.out | apply below_alloc | apply pw_below_drewN | apply below_drew1 | refine below_set ?_ GE220.out | refine below_set ?_ GE234.out) | exact HB.out)) hb); clear BK220; clear BK234; clear HB; have BK220 := n0_; have BK234 := n1_; have HB := n2_; clear n0_ n1_ n2_; (try clear hb); (try clear hb2); (try clear hk); (try clear hi); have hcz90_0 : w89.cell? ⟨gb220, 0, none⟩ = some (.int .i64 a0_0) := (blk_cell BK220.out 0).trans rfl; have hcz90_1 : w89.cell? ⟨gb220, 1, none⟩ = some (.int .i64 a0_1) := (blk_cell BK220.out 1).trans rfl; have hcz90_2 : w89.cell? ⟨gb220, 2, none⟩ = some (.int .i64 a0_2) := (blk_cell BK220.out 2).trans rfl; have hcz90_3 : w89.cell? ⟨gb220, 3, none⟩ = some (.int .i64 a0_3) := (blk_cell BK220.out 3).trans rfl; have hcz90_4 : w89.cell? ⟨gb220, 4, none⟩ = some (.int .i64 a0_4) := (blk_cell BK220.out 4).trans rfl; have hcz90_5 : w89.cell? ⟨gb220, 5, none⟩ = some (.int .i64 a0_5) := (blk_cell BK220.out 5).trans rfl; have hcz90_6 : w89.cell? ⟨gb220, 6, none⟩ = some (.bool a0_6) := (blk_cell BK220.out 6).trans rfl; have hfz90_0 := blk_frozen BK220.out 0; have hfz90_1 := blk_frozen BK220.out 1; have hfz90_2 := blk_frozen BK220.out 2; have hfz90_3 := blk_frozen BK220.out 3; have hfz90_4 := blk_frozen BK220.out 4; have hfz90_5 := blk_frozen BK220.out 5; have hfz90_6 := blk_frozen BK220.out 6) | ((with_reducible refine gate_callee (f := 11) rfl ?_); refine goesL_ (some 92) rfl rfl Try.func11 (by kernel_rfl) rfl #[.agg #[.int .i64 a0_0, .int .i64 a0_1, .int .i64 a0_2, .int .i64 a0_3, .int .i64 a0_4, .int .i64 a0_5, .bool a0_6], .int .i64 (wrap64 (a1 - 1)), .int .i64 a2] rfl (by (try simp only [List.map_toArray, List.map_cons, List.map_nil]); first | done | rfl | (simp only [List.length_drop, List.length_take]; rfl)) ?_; (with_reducible refine (size_CallPrograms.calls kj39 a0_0 a0_1 a0_2 a0_3 a0_4 a0_5 a0_6 (wrap64 (a1 - 1)) a2 t238 t239 _ A52.out).mono ?_); rintro e w91 ⟨rfl, hb⟩; refine ⟨_, rfl, ?_⟩; have n0_ := Aside0.mk (blk_below (g := gb220) (o := .cells #[.int .i64 a0_0, .int .i64 a0_1, .int .i64 a0_2, .int .i64 a0_3, .int .i64 a0_4, .int .i64 a0_5, .bool a0_6] 29 (0, 0)) (by (with_reducible repeat (first | refine blk_drewN ?_ _ | refine blk_drew ?_ | refine blk_alloc ?_ _)); exact BK220.out) hb); have n1_ := Aside0.mk (blk_below (g := gb234) (o := .cells #[.int .i64 t222, .int .i64 t223, .int .i64 t224, .int .i64 t225, .int .i64 t226, .int .i64 t227, .int .i64 t228, .int .i64 t229, .int .i64 t230, .int .i64 t231, .int .i64 t232] 24 (0, 0)) (by (with_reducible repeat (first | refine blk_drewN ?_ _ | refine blk_drew ?_ | refine blk_alloc ?_ _)); exact BK234.out) hb); have n2_ := Aside0.mk (below_step (by repeat (first | (with_reducible first | exact HB.out | apply below_alloc | apply pw_below_drewN | apply below_drew1 | refine below_set ?_ GE220.out | refine below_set ?_ GE234.out) | exact HB.out)) hb); clear BK220; clear BK234; clear HB; have BK220 := n0_; have BK234 := n1_; have HB := n2_; clear n0_ n1_ n2_; (try clear hb); (try clear hb2); (try clear hk); (try clear hi); have hcz92_0 : w91.cell? ⟨gb220, 0, none⟩ = some (.int .i64 a0_0) := (blk_cell BK220.out 0).trans rfl; have hcz92_1 : w91.cell? ⟨gb220, 1, none⟩ = some (.int .i64 a0_1) := (blk_cell BK220.out 1).trans rfl; have hcz92_2 : w91.cell? ⟨gb220, 2, none⟩ = some (.int .i64 a0_2) := (blk_cell BK220.out 2).trans rfl; have hcz92_3 : w91.cell? ⟨gb220, 3, none⟩ = some (.int .i64 a0_3) := (blk_cell BK220.out 3).trans rfl; have hcz92_4 : w91.cell? ⟨gb220, 4, none⟩ = some (.int .i64 a0_4) := (blk_cell BK220.out 4).trans rfl; have hcz92_5 : w91.cell? ⟨gb220, 5, none⟩ = some (.int .i64 a0_5) := (blk_cell BK220.out 5).trans rfl; have hcz92_6 : w91.cell? ⟨gb220, 6, none⟩ = some (.bool a0_6) := (blk_cell BK220.out 6).trans rfl; have hfz92_0 := blk_frozen BK220.out 0; have hfz92_1 := blk_frozen BK220.out 1; have hfz92_2 := blk_frozen BK220.out 2; have hfz92_3 := blk_frozen BK220.out 3; have hfz92_4 := blk_frozen BK220.out 4; have hfz92_5 := blk_frozen BK220.out 5; have hfz92_6 := blk_frozen BK220.out 6) | ((with_reducible refine gate_callee (f := 11) rfl ?_); refine goesL_ (some 100) rfl rfl Try.func11 (by kernel_rfl) rfl #[.agg #[.int .i64 a0_0, .int .i64 a0_1, .int .i64 a0_2, .int .i64 a0_3, .int .i64 a0_4, .int .i64 a0_5, .bool a0_6], .int .i64 a1, .int .i64 (wrap64 (a2 - 1))] rfl (by (try simp only [List.map_toArray, List.map_cons, List.map_nil]); first | done | rfl | (simp only [List.length_drop, List.length_take]; rfl)) ?_; (with_reducible refine (size_CallPrograms.calls kj39 a0_0 a0_1 a0_2 a0_3 a0_4 a0_5 a0_6 a1 (wrap64 (a2 - 1)) t240 t241 _ A53.out).mono ?_); rintro e w93 ⟨rfl, hb⟩; refine ⟨_, rfl, ?_⟩; have n0_ := Aside0.mk (blk_below (g := gb220) (o := .cells #[.int .i64 a0_0, .int .i64 a0_1, .int .i64 a0_2, .int .i64 a0_3, .int .i64 a0_4, .int .i64 a0_5, .bool a0_6] 29 (0, 0)) (by (with_reducible repeat (first | refine blk_drewN ?_ _ | refine blk_drew ?_ | refine blk_alloc ?_ _)); exact BK220.out) hb); have n1_ := Aside0.mk (blk_below (g := gb234) (o := .cells #[.int .i64 t222, .int .i64 t223, .int .i64 t224, .int .i64 t225, .int .i64 t226, .int .i64 t227, .int .i64 t228, .int .i64 t229, .int .i64 t230, .int .i64 t231, .int .i64 t232] 24 (0, 0)) (by (with_reducible repeat (first | refine blk_drewN ?_ _ | refine blk_drew ?_ | refine blk_alloc ?_ _)); exact BK234.out) hb); have n2_ := Aside0.mk (below_step (by repeat (first | (with_reducible first | exact HB.out | apply below_alloc | apply pw_below_drewN | apply below_drew1 | refine below_set ?_ GE220.out | refine below_set ?_ GE234.out) | exact HB.out)) hb); clear BK220; clear BK234; clear HB; have BK220 := n0_; have BK234 := n1_; have HB := n2_; clear n0_ n1_ n2_; (try clear hb); (try clear hb2); (try clear hk); (try clear hi)))
                      go_ret
                      exact ⟨by first | rfl | (simp [errW_none, errW_some] <;> rfl) | (simp [*, errW_none, errW_some] <;> rfl), by repeat (first | (with_reducible first | exact HB.out | apply below_alloc | apply pw_below_drewN | apply below_drew1 | refine below_set ?_ GE220.out | refine below_set ?_ GE234.out) | exact HB.out)⟩
                  · rw [if_neg c54] at H
                    have c54b0 : (t237 == 0) = false := beq_eq_false_iff_ne.mpr c54
                    have c54b1 : (t237 != 0) = true := bne_iff_ne.mpr c54
                    obtain rfl := Option.some.inj H
                    have hnb94 := NB220_234.out
                    have hnc94 := NB234_220.out
                    have hcz95_0 : wc.cell? ⟨gb220, 0, none⟩ = some (.int .i64 a0_0) := (blk_cell BK220.out 0).trans rfl
                    have hcz95_1 : wc.cell? ⟨gb220, 1, none⟩ = some (.int .i64 a0_1) := (blk_cell BK220.out 1).trans rfl
                    have hcz95_2 : wc.cell? ⟨gb220, 2, none⟩ = some (.int .i64 a0_2) := (blk_cell BK220.out 2).trans rfl
                    have hcz95_3 : wc.cell? ⟨gb220, 3, none⟩ = some (.int .i64 a0_3) := (blk_cell BK220.out 3).trans rfl
                    have hcz95_4 : wc.cell? ⟨gb220, 4, none⟩ = some (.int .i64 a0_4) := (blk_cell BK220.out 4).trans rfl
                    have hcz95_5 : wc.cell? ⟨gb220, 5, none⟩ = some (.int .i64 a0_5) := (blk_cell BK220.out 5).trans rfl
                    have hcz95_6 : wc.cell? ⟨gb220, 6, none⟩ = some (.bool a0_6) := (blk_cell BK220.out 6).trans rfl
                    have hfz95_0 := blk_frozen BK220.out 0
                    have hfz95_1 := blk_frozen BK220.out 1
                    have hfz95_2 := blk_frozen BK220.out 2
                    have hfz95_3 := blk_frozen BK220.out 3
                    have hfz95_4 := blk_frozen BK220.out 4
                    have hfz95_5 := blk_frozen BK220.out 5
                    have hfz95_6 := blk_frozen BK220.out 6
                    go_wp2_with (first | ((with_reducible refine gate_callee (f := 11) rfl ?_); refine goesL_ (some 84) rfl rfl Try.func11 (by kernel_rfl) rfl #[.agg #[.int .i64 a0_0, .int .i64 a0_1, .int .i64 a0_2, .int .i64 a0_3, .int .i64 a0_4, .int .i64 a0_5, .bool a0_6], .int .i64 a1, .int .i64 a2] rfl (by (try simp only [List.map_toArray, List.map_cons, List.map_nil]); first | done | rfl | (simp only [List.length_drop, List.length_take]; rfl)) ?_; (with_reducible refine (size_CallPrograms.calls kj39 a0_0 a0_1 a0_2 a0_3 a0_4 a0_5 a0_6 a1 a2 t236 t237 _ A51.out).mono ?_); rintro e w96 ⟨rfl, hb⟩; refine ⟨_, rfl, ?_⟩; have n0_ := Aside0.mk (blk_below (g := gb220) (o := .cells #[.int .i64 a0_0, .int .i64 a0_1, .int .i64 a0_2, .int .i64 a0_3, .int .i64 a0_4, .int .i64 a0_5, .bool a0_6] 29 (0, 0)) (by (with_reducible repeat (first | refine blk_drewN ?_ _ | refine blk_drew ?_ | refine blk_alloc ?_ _)); exact BK220.out) hb); have n1_ := Aside0.mk (blk_below (g := gb234) (o := .cells #[.int .i64 t222, .int .i64 t223, .int .i64 t224, .int .i64 t225, .int .i64 t226, .int .i64 t227, .int .i64 t228, .int .i64 t229, .int .i64 t230, .int .i64 t231, .int .i64 t232] 24 (0, 0)) (by (with_reducible repeat (first | refine blk_drewN ?_ _ | refine blk_drew ?_ | refine blk_alloc ?_ _)); exact BK234.out) hb); have n2_ := Aside0.mk (below_step (by repeat (first | (with_reducible first | exact HB.out | apply below_alloc | apply pw_below_drewN | apply below_drew1 | refine below_set ?_ GE220.out | refine below_set ?_ GE234.out) | exact HB.out)) hb); clear BK220; clear BK234; clear HB; have BK220 := n0_; have BK234 := n1_; have HB := n2_; clear n0_ n1_ n2_; (try clear hb); (try clear hb2); (try clear hk); (try clear hi); have hcz97_0 : w96.cell? ⟨gb220, 0, none⟩ = some (.int .i64 a0_0) := (blk_cell BK220.out 0).trans rfl; have hcz97_1 : w96.cell? ⟨gb220, 1, none⟩ = some (.int .i64 a0_1) := (blk_cell BK220.out 1).trans rfl; have hcz97_2 : w96.cell? ⟨gb220, 2, none⟩ = some (.int .i64 a0_2) := (blk_cell BK220.out 2).trans rfl; have hcz97_3 : w96.cell? ⟨gb220, 3, none⟩ = some (.int .i64 a0_3) := (blk_cell BK220.out 3).trans rfl; have hcz97_4 : w96.cell? ⟨gb220, 4, none⟩ = some (.int .i64 a0_4) := (blk_cell BK220.out 4).trans rfl; have hcz97_5 : w96.cell? ⟨gb220, 5, none⟩ = some (.int .i64 a0_5) := (blk_cell BK220.out 5).trans rfl; have hcz97_6 : w96.cell? ⟨gb220, 6, none⟩ = some (.bool a0_6) := (blk_cell BK220.out 6).trans rfl; have hfz97_0 := blk_frozen BK220.out 0; have hfz97_1 := blk_frozen BK220.out 1; have hfz97_2 := blk_frozen BK220.out 2; have hfz97_3 := blk_frozen BK220.out 3; have hfz97_4 := blk_frozen BK220.out 4; have hfz97_5 := blk_frozen BK220.out 5; have hfz97_6 := blk_frozen BK220.out 6) | ((with_reducible refine gate_callee (f := 11) rfl ?_); refine goesL_ (some 92) rfl rfl Try.func11 (by kernel_rfl) rfl #[.agg #[.int .i64 a0_0, .int .i64 a0_1, .int .i64 a0_2, .int .i64 a0_3, .int .i64 a0_4, .int .i64 a0_5, .bool a0_6], .int .i64 (wrap64 (a1 - 1)), .int .i64 a2] rfl (by (try simp only [List.map_toArray, List.map_cons, List.map_nil]); first | done | rfl | (simp only [List.length_drop, List.length_take]; rfl)) ?_; (with_reducible refine (size_CallPrograms.calls kj39 a0_0 a0_1 a0_2 a0_3 a0_4 a0_5 a0_6 (wrap64 (a1 - 1)) a2 t238 t239 _ A52.out).mono ?_); rintro e w98 ⟨rfl, hb⟩; refine ⟨_, rfl, ?_⟩; have n0_ := Aside0.mk (blk_below (g := gb220) (o := .cells #[.int .i64 a0_0, .int .i64 a0_1, .int .i64 a0_2, .int .i64 a0_3, .int .i64 a0_4, .int .i64 a0_5, .bool a0_6] 29 (0, 0)) (by (with_reducible repeat (first | refine blk_drewN ?_ _ | refine blk_drew ?_ | refine blk_alloc ?_ _)); exact BK220.out) hb); have n1_ := Aside0.mk (blk_below (g := gb234) (o := .cells #[.int .i64 t222, .int .i64 t223, .int .i64 t224, .int .i64 t225, .int .i64 t226, .int .i64 t227, .int .i64 t228, .int .i64 t229, .int .i64 t230, .int .i64 t231, .int .i64 t232] 24 (0, 0)) (by (with_reducible repeat (first | refine blk_drewN ?_ _ | refine blk_drew ?_ | refine blk_alloc ?_ _)); exact BK234.out) hb); have n2_ := Aside0.mk (below_step (by repeat (first | (with_reducible first | exact HB.out | apply below_alloc | apply pw_below_drewN | apply below_drew1 | refine below_set ?_ GE220.out | refine below_set ?_ GE234.out) | exact HB.out)) hb); clear BK220; clear BK234; clear HB; have BK220 := n0_; have BK234 := n1_; have HB := n2_; clear n0_ n1_ n2_; (try clear hb); (try clear hb2); (try clear hk); (try clear hi); have hcz99_0 : w98.cell? ⟨gb220, 0, none⟩ = some (.int .i64 a0_0) := (blk_cell BK220.out 0).trans rfl; have hcz99_1 : w98.cell? ⟨gb220, 1, none⟩ = some (.int .i64 a0_1) := (blk_cell BK220.out 1).trans rfl; have hcz99_2 : w98.cell? ⟨gb220, 2, none⟩ = some (.int .i64 a0_2) := (blk_cell BK220.out 2).trans rfl; have hcz99_3 : w98.cell? ⟨gb220, 3, none⟩ = some (.int .i64 a0_3) := (blk_cell BK220.out 3).trans rfl; have hcz99_4 : w98.cell? ⟨gb220, 4, none⟩ = some (.int .i64 a0_4) := (blk_cell BK220.out 4).trans rfl; have hcz99_5 : w98.cell? ⟨gb220, 5, none⟩ = some (.int .i64 a0_5) := (blk_cell BK220.out 5).trans rfl; have hcz99_6 : w98.cell? ⟨gb220, 6, none⟩ = some (.bool a0_6) := (blk_cell BK220.out 6).trans rfl; have hfz99_0 := blk_frozen BK220.out 0; have hfz99_1 := blk_frozen BK220.out 1; have hfz99_2 := blk_frozen BK220.out 2; have hfz99_3 := blk_frozen BK220.out 3; have hfz99_4 := blk_frozen BK220.out 4; have hfz99_5 := blk_frozen BK220.out 5; have hfz99_6 := blk_frozen BK220.out 6) | ((with_reducible refine gate_callee (f := 11) rfl ?_); refine goesL_ (some 100) rfl rfl Try.func11 (by kernel_rfl) rfl #[.agg #[.int .i64 a0_0, .int .i64 a0_1, .int .i64 a0_2, .int .i64 a0_3, .int .i64 a0_4, .int .i64 a0_5, .bool a0_6], .int .i64 a1, .int .i64 (wrap64 (a2 - 1))] rfl (by (try simp only [List.map_toArray, List.map_cons, List.map_nil]); first | done | rfl | (simp only [List.length_drop, List.length_take]; rfl)) ?_; (with_reducible refine (size_CallPrograms.calls kj39 a0_0 a0_1 a0_2 a0_3 a0_4 a0_5 a0_6 a1 (wrap64 (a2 - 1)) t240 t241 _ A53.out).mono ?_); rintro e w100 ⟨rfl, hb⟩; refine ⟨_, rfl, ?_⟩; have n0_ := Aside0.mk (blk_below (g := gb220) (o := .cells #[.int .i64 a0_0, .int .i64 a0_1, .int .i64 a0_2, .int .i64 a0_3, .int .i64 a0_4, .int .i64 a0_5, .bool a0_6] 29 (0, 0)) (by (with_reducible repeat (first | refine blk_drewN ?_ _ | refine blk_drew ?_ | refine blk_alloc ?_ _)); exact BK220.out) hb); have n1_ := Aside0.mk (blk_below (g := gb234) (o := .cells #[.int .i64 t222, .int .i64 t223, .int .i64 t224, .int .i64 t225, .int .i64 t226, .int .i64 t227, .int .i64 t228, .int .i64 t229, .int .i64 t230, .int .i64 t231, .int .i64 t232] 24 (0, 0)) (by (with_reducible repeat (first | refine blk_drewN ?_ _ | refine blk_drew ?_ | refine blk_alloc ?_ _)); exact BK234.out) hb); have n2_ := Aside0.mk (below_step (by repeat (first | (with_reducible first | exact HB.out | apply below_alloc | apply pw_below_drewN | apply below_drew1 | refine below_set ?_ GE220.out | refine below_set ?_ GE234.out) | exact HB.out)) hb); clear BK220; clear BK234; clear HB; have BK220 := n0_; have BK234 := n1_; have HB := n2_; clear n0_ n1_ n2_; (try clear hb); (try clear hb2); (try clear hk); (try clear hi)))
                    go_ret
                    exact ⟨by first | rfl | (simp [errW_none, errW_some] <;> rfl) | (simp [*, errW_none, errW_some] <;> rfl), by repeat (first | (with_reducible first | exact HB.out | apply below_alloc | apply pw_below_drewN | apply below_drew1 | refine below_set ?_ GE220.out | refine below_set ?_ GE234.out) | exact HB.out)⟩
    · replace c8 := Bool.eq_false_iff.mpr c8
      subst c8
      have H1 : (some true) = some r := by rw [if_neg (show ¬ (false = true) by decide)] at H; exact H
      clear H
      have H := H1
      clear H1
      obtain rfl := Option.some.inj H
      go_enter Try.func6, Try.ntmps6
      go_wp2_with (first | ((with_reducible refine gate_dst (N := 3) rfl ?_); refine box_event ?hg (N := 3) ?hd (cs := #[.int .i64 a0_0, .int .i64 a0_1, .int .i64 a0_2, .int .i64 a0_3, .int .i64 a0_4, .int .i64 a0_5, .bool a0_6]) (t := 29) ?hr ?_; (case hd => rfl); (case hg => rfl); (case hr => first | (go_simp; done) | (go_simp; rfl)); intro gb220 hg w101 hbox hb; have n0_ := Aside0.mk (below_step (by repeat (first | (with_reducible first | exact HB.out | apply below_alloc | apply pw_below_drewN | apply below_drew1) | exact HB.out)) hb); have n1_ := Aside0.mk (hbox); have n2_ := Aside0.mk ((by rw [hg]; exact (below_size (by repeat (first | (with_reducible first | exact HB.out | apply below_alloc | apply pw_below_drewN | apply below_drew1) | exact HB.out))) : w.heap.size ≤ gb220)); have n3_ := Aside0.mk ((by rw [hg]; exact (below_size (by repeat (first | (with_reducible first | exact HB.out | apply below_alloc | apply pw_below_drewN | apply below_drew1) | exact HB.out))) : w.heap.size ≤ gb220)); clear HB; have HB := n0_; have BK220 := n1_; have GW220 := n2_; have GE220 := n3_; clear n0_ n1_ n2_ n3_; clear hb hbox hg) | ((with_reducible refine gate_callee (f := 8) rfl ?_); refine goesL_ (some 14) rfl rfl Try.func8 (by kernel_rfl) rfl #[] rfl (by (try simp only [List.map_toArray, List.map_cons, List.map_nil]); first | done | rfl | (simp only [List.length_drop, List.length_take]; rfl)) ?_; (with_reducible refine (ferrulelaw16_awake.calls k  true _ A4.out).mono ?_); rintro e w102 ⟨rfl, hb⟩; refine ⟨_, rfl, ?_⟩; have n0_ := Aside0.mk (blk_below (g := gb220) (o := .cells #[.int .i64 a0_0, .int .i64 a0_1, .int .i64 a0_2, .int .i64 a0_3, .int .i64 a0_4, .int .i64 a0_5, .bool a0_6] 29 (0, 0)) (by (with_reducible repeat (first | refine blk_drewN ?_ _ | refine blk_drew ?_ | refine blk_alloc ?_ _)); exact BK220.out) hb); have n1_ := Aside0.mk (below_step (by repeat (first | (with_reducible first | exact HB.out | apply below_alloc | apply pw_below_drewN | apply below_drew1 | refine below_set ?_ GE220.out) | exact HB.out)) hb); clear BK220; clear HB; have BK220 := n0_; have HB := n1_; clear n0_ n1_; (try clear hb); (try clear hb2); (try clear hk); (try clear hi); have hcz103_0 : w102.cell? ⟨gb220, 0, none⟩ = some (.int .i64 a0_0) := (blk_cell BK220.out 0).trans rfl; have hcz103_1 : w102.cell? ⟨gb220, 1, none⟩ = some (.int .i64 a0_1) := (blk_cell BK220.out 1).trans rfl; have hcz103_2 : w102.cell? ⟨gb220, 2, none⟩ = some (.int .i64 a0_2) := (blk_cell BK220.out 2).trans rfl; have hcz103_3 : w102.cell? ⟨gb220, 3, none⟩ = some (.int .i64 a0_3) := (blk_cell BK220.out 3).trans rfl; have hcz103_4 : w102.cell? ⟨gb220, 4, none⟩ = some (.int .i64 a0_4) := (blk_cell BK220.out 4).trans rfl; have hcz103_5 : w102.cell? ⟨gb220, 5, none⟩ = some (.int .i64 a0_5) := (blk_cell BK220.out 5).trans rfl; have hcz103_6 : w102.cell? ⟨gb220, 6, none⟩ = some (.bool a0_6) := (blk_cell BK220.out 6).trans rfl; have hfz103_0 := blk_frozen BK220.out 0; have hfz103_1 := blk_frozen BK220.out 1; have hfz103_2 := blk_frozen BK220.out 2; have hfz103_3 := blk_frozen BK220.out 3; have hfz103_4 := blk_frozen BK220.out 4; have hfz103_5 := blk_frozen BK220.out 5; have hfz103_6 := blk_frozen BK220.out 6) | ((with_reducible refine gate_callee (f := 9) rfl ?_); refine goesL_ (some 18) rfl rfl Try.func9 (by kernel_rfl) rfl #[.agg #[.int .i64 a0_0, .int .i64 a0_1, .int .i64 a0_2, .int .i64 a0_3, .int .i64 a0_4, .int .i64 a0_5, .bool a0_6]] rfl (by (try simp only [List.map_toArray, List.map_cons, List.map_nil]); first | done | rfl | (simp only [List.length_drop, List.length_take]; rfl)) ?_; (with_reducible refine (size_Of.calls k a0_0 a0_1 a0_2 a0_3 a0_4 a0_5 a0_6 t222 t223 t224 t225 t226 t227 t228 t229 t230 t231 t232 t233 _ A6.out).mono ?_); rintro e w104 ⟨rfl, hb⟩; refine ⟨_, rfl, ?_⟩; have n0_ := Aside0.mk (blk_below (g := gb220) (o := .cells #[.int .i64 a0_0, .int .i64 a0_1, .int .i64 a0_2, .int .i64 a0_3, .int .i64 a0_4, .int .i64 a0_5, .bool a0_6] 29 (0, 0)) (by (with_reducible repeat (first | refine blk_drewN ?_ _ | refine blk_drew ?_ | refine blk_alloc ?_ _)); exact BK220.out) hb); have n1_ := Aside0.mk (below_step (by repeat (first | (with_reducible first | exact HB.out | apply below_alloc | apply pw_below_drewN | apply below_drew1 | refine below_set ?_ GE220.out) | exact HB.out)) hb); clear BK220; clear HB; have BK220 := n0_; have HB := n1_; clear n0_ n1_; (try clear hb); (try clear hb2); (try clear hk); (try clear hi)) | ((with_reducible refine gate_dst (N := 7) rfl ?_); refine box_event ?hg (N := 7) ?hd (cs := #[.int .i64 0, .int .i64 0, .int .i64 0, .int .i64 0, .int .i64 0, .int .i64 0, .int .i64 0, .int .i64 0, .int .i64 0, .int .i64 0, .int .i64 0]) (t := 24) ?hr ?_; (case hd => rfl); (case hg => rfl); (case hr => first | (go_simp; done) | (go_simp; rfl)); intro gb234 hg w105 hbox hb; have n0_ := Aside0.mk (blk_below (g := gb220) (o := .cells #[.int .i64 a0_0, .int .i64 a0_1, .int .i64 a0_2, .int .i64 a0_3, .int .i64 a0_4, .int .i64 a0_5, .bool a0_6] 29 (0, 0)) (by (with_reducible repeat (first | refine blk_drewN ?_ _ | refine blk_drew ?_ | refine blk_alloc ?_ _)); exact BK220.out) hb); have n1_ := Aside0.mk (below_step (by repeat (first | (with_reducible first | exact HB.out | apply below_alloc | apply pw_below_drewN | apply below_drew1 | refine below_set ?_ GE220.out) | exact HB.out)) hb); have n2_ := Aside0.mk (hbox); have n3_ := Aside0.mk ((by rw [hg]; exact (below_size (by repeat (first | (with_reducible first | exact HB.out | apply below_alloc | apply pw_below_drewN | apply below_drew1 | refine below_set ?_ GE220.out) | exact HB.out))) : w.heap.size ≤ gb234)); have n4_ := Aside0.mk ((by rw [hg]; exact (below_size (by repeat (first | (with_reducible first | exact HB.out | apply below_alloc | apply pw_below_drewN | apply below_drew1 | refine below_set ?_ GE220.out) | exact HB.out))) : w.heap.size ≤ gb234)); have n5_ := Aside0.mk ((by rw [hg]; exact Nat.ne_of_lt (blk_lt (g := gb220) (o := .cells #[.int .i64 a0_0, .int .i64 a0_1, .int .i64 a0_2, .int .i64 a0_3, .int .i64 a0_4, .int .i64 a0_5, .bool a0_6] 29 (0, 0)) (by (with_reducible repeat (first | refine blk_drewN ?_ _ | refine blk_drew ?_ | refine blk_alloc ?_ _)); exact BK220.out)) : gb220 ≠ gb234)); have n6_ := Aside0.mk ((by rw [hg]; exact Nat.ne_of_gt (blk_lt (g := gb220) (o := .cells #[.int .i64 a0_0, .int .i64 a0_1, .int .i64 a0_2, .int .i64 a0_3, .int .i64 a0_4, .int .i64 a0_5, .bool a0_6] 29 (0, 0)) (by (with_reducible repeat (first | refine blk_drewN ?_ _ | refine blk_drew ?_ | refine blk_alloc ?_ _)); exact BK220.out)) : gb234 ≠ gb220)); clear BK220; clear HB; have BK220 := n0_; have HB := n1_; have BK234 := n2_; have GW234 := n3_; have GE234 := n4_; have NB220_234 := n5_; have NB234_220 := n6_; clear n0_ n1_ n2_ n3_ n4_ n5_ n6_; clear hb hbox hg; have hnb106 := NB234_220.out; have hnc106 := NB220_234.out; have hcz107_0 : w105.cell? ⟨gb234, 0, none⟩ = some (.int .i64 0) := (blk_cell BK234.out 0).trans rfl; have hcz107_1 : w105.cell? ⟨gb234, 1, none⟩ = some (.int .i64 0) := (blk_cell BK234.out 1).trans rfl; have hcz107_2 : w105.cell? ⟨gb234, 2, none⟩ = some (.int .i64 0) := (blk_cell BK234.out 2).trans rfl; have hcz107_3 : w105.cell? ⟨gb234, 3, none⟩ = some (.int .i64 0) := (blk_cell BK234.out 3).trans rfl; have hcz107_4 : w105.cell? ⟨gb234, 4, none⟩ = some (.int .i64 0) := (blk_cell BK234.out 4).trans rfl; have hcz107_5 : w105.cell? ⟨gb234, 5, none⟩ = some (.int .i64 0) := (blk_cell BK234.out 5).trans rfl; have hcz107_6 : w105.cell? ⟨gb234, 6, none⟩ = some (.int .i64 0) := (blk_cell BK234.out 6).trans rfl; have hcz107_7 : w105.cell? ⟨gb234, 7, none⟩ = some (.int .i64 0) := (blk_cell BK234.out 7).trans rfl; have hcz107_8 : w105.cell? ⟨gb234, 8, none⟩ = some (.int .i64 0) := (blk_cell BK234.out 8).trans rfl; have hcz107_9 : w105.cell? ⟨gb234, 9, none⟩ = some (.int .i64 0) := (blk_cell BK234.out 9).trans rfl; have hcz107_10 : w105.cell? ⟨gb234, 10, none⟩ = some (.int .i64 0) := (blk_cell BK234.out 10).trans rfl; have hfz107_0 := blk_frozen BK234.out 0; have hfz107_1 := blk_frozen BK234.out 1; have hfz107_2 := blk_frozen BK234.out 2; have hfz107_3 := blk_frozen BK234.out 3; have hfz107_4 := blk_frozen BK234.out 4; have hfz107_5 := blk_frozen BK234.out 5; have hfz107_6 := blk_frozen BK234.out 6; have hfz107_7 := blk_frozen BK234.out 7; have hfz107_8 := blk_frozen BK234.out 8; have hfz107_9 := blk_frozen BK234.out 9; have hfz107_10 := blk_frozen BK234.out 10; have hcz108_0 : w105.cell? ⟨gb220, 0, none⟩ = some (.int .i64 a0_0) := (blk_cell BK220.out 0).trans rfl; have hcz108_1 : w105.cell? ⟨gb220, 1, none⟩ = some (.int .i64 a0_1) := (blk_cell BK220.out 1).trans rfl; have hcz108_2 : w105.cell? ⟨gb220, 2, none⟩ = some (.int .i64 a0_2) := (blk_cell BK220.out 2).trans rfl; have hcz108_3 : w105.cell? ⟨gb220, 3, none⟩ = some (.int .i64 a0_3) := (blk_cell BK220.out 3).trans rfl; have hcz108_4 : w105.cell? ⟨gb220, 4, none⟩ = some (.int .i64 a0_4) := (blk_cell BK220.out 4).trans rfl; have hcz108_5 : w105.cell? ⟨gb220, 5, none⟩ = some (.int .i64 a0_5) := (blk_cell BK220.out 5).trans rfl; have hcz108_6 : w105.cell? ⟨gb220, 6, none⟩ = some (.bool a0_6) := (blk_cell BK220.out 6).trans rfl; have hfz108_0 := blk_frozen BK220.out 0; have hfz108_1 := blk_frozen BK220.out 1; have hfz108_2 := blk_frozen BK220.out 2; have hfz108_3 := blk_frozen BK220.out 3; have hfz108_4 := blk_frozen BK220.out 4; have hfz108_5 := blk_frozen BK220.out 5; have hfz108_6 := blk_frozen BK220.out 6) | ((with_reducible refine gate_callee (f := 12) rfl ?_); refine goesL_ (some 22) rfl rfl Try.func12 (by kernel_rfl) rfl #[.agg #[.int .i64 a0_0, .int .i64 a0_1, .int .i64 a0_2, .int .i64 a0_3, .int .i64 a0_4, .int .i64 a0_5, .bool a0_6]] rfl (by (try simp only [List.map_toArray, List.map_cons, List.map_nil]); first | done | rfl | (simp only [List.length_drop, List.length_take]; rfl)) ?_; (with_reducible refine (size_Good.calls k a0_0 a0_1 a0_2 a0_3 a0_4 a0_5 a0_6 false _ A7.out).mono ?_); rintro e w109 ⟨rfl, hb⟩; refine ⟨_, rfl, ?_⟩; have n0_ := Aside0.mk (blk_below (g := gb220) (o := .cells #[.int .i64 a0_0, .int .i64 a0_1, .int .i64 a0_2, .int .i64 a0_3, .int .i64 a0_4, .int .i64 a0_5, .bool a0_6] 29 (0, 0)) (by (with_reducible repeat (first | refine blk_drewN ?_ _ | refine blk_drew ?_ | refine blk_alloc ?_ _)); refine blk_far ?_ NB220_234.out _; (with_reducible repeat (first | refine blk_drewN ?_ _ | refine blk_drew ?_ | refine blk_alloc ?_ _)); refine blk_far ?_ NB220_234.out _; (with_reducible repeat (first | refine blk_drewN ?_ _ | refine blk_drew ?_ | refine blk_alloc ?_ _)); refine blk_far ?_ NB220_234.out _; (with_reducible repeat (first | refine blk_drewN ?_ _ | refine blk_drew ?_ | refine blk_alloc ?_ _)); refine blk_far ?_ NB220_234.out _; (with_reducible repeat (first | refine blk_drewN ?_ _ | refine blk_drew ?_ | refine blk_alloc ?_ _)); refine blk_far ?_ NB220_234.out _; (with_reducible repeat (first | refine blk_drewN ?_ _ | refine blk_drew ?_ | refine blk_alloc ?_ _)); refine blk_far ?_ NB220_234.out _; (with_reducible repeat (first | refine blk_drewN ?_ _ | refine blk_drew ?_ | refine blk_alloc ?_ _)); refine blk_far ?_ NB220_234.out _; (with_reducible repeat (first | refine blk_drewN ?_ _ | refine blk_drew ?_ | refine blk_alloc ?_ _)); refine blk_far ?_ NB220_234.out _; (with_reducible repeat (first | refine blk_drewN ?_ _ | refine blk_drew ?_ | refine blk_alloc ?_ _)); refine blk_far ?_ NB220_234.out _; (with_reducible repeat (first | refine blk_drewN ?_ _ | refine blk_drew ?_ | refine blk_alloc ?_ _)); refine blk_far ?_ NB220_234.out _; (with_reducible repeat (first | refine blk_drewN ?_ _ | refine blk_drew ?_ | refine blk_alloc ?_ _)); refine blk_far ?_ NB220_234.out _; (with_reducible repeat (first | refine blk_drewN ?_ _ | refine blk_drew ?_ | refine blk_alloc ?_ _)); exact BK220.out) hb); have n1_ := Aside0.mk (blk_below (g := gb234) (o := .cells #[.int .i64 t222, .int .i64 t223, .int .i64 t224, .int .i64 t225, .int .i64 t226, .int .i64 t227, .int .i64 t228, .int .i64 t229, .int .i64 t230, .int .i64 t231, .int .i64 t232] 24 (0, 0)) (by (with_reducible repeat (first | refine blk_drewN ?_ _ | refine blk_drew ?_ | refine blk_alloc ?_ _)); refine blk_put (cs := #[.int .i64 t222, .int .i64 t223, .int .i64 t224, .int .i64 t225, .int .i64 t226, .int .i64 t227, .int .i64 t228, .int .i64 t229, .int .i64 t230, .int .i64 t231, .int .i64 0]) ?_ 10 _ rfl; (with_reducible repeat (first | refine blk_drewN ?_ _ | refine blk_drew ?_ | refine blk_alloc ?_ _)); refine blk_put (cs := #[.int .i64 t222, .int .i64 t223, .int .i64 t224, .int .i64 t225, .int .i64 t226, .int .i64 t227, .int .i64 t228, .int .i64 t229, .int .i64 t230, .int .i64 0, .int .i64 0]) ?_ 9 _ rfl; (with_reducible repeat (first | refine blk_drewN ?_ _ | refine blk_drew ?_ | refine blk_alloc ?_ _)); refine blk_put (cs := #[.int .i64 t222, .int .i64 t223, .int .i64 t224, .int .i64 t225, .int .i64 t226, .int .i64 t227, .int .i64 t228, .int .i64 t229, .int .i64 0, .int .i64 0, .int .i64 0]) ?_ 8 _ rfl; (with_reducible repeat (first | refine blk_drewN ?_ _ | refine blk_drew ?_ | refine blk_alloc ?_ _)); refine blk_put (cs := #[.int .i64 t222, .int .i64 t223, .int .i64 t224, .int .i64 t225, .int .i64 t226, .int .i64 t227, .int .i64 t228, .int .i64 0, .int .i64 0, .int .i64 0, .int .i64 0]) ?_ 7 _ rfl; (with_reducible repeat (first | refine blk_drewN ?_ _ | refine blk_drew ?_ | refine blk_alloc ?_ _)); refine blk_put (cs := #[.int .i64 t222, .int .i64 t223, .int .i64 t224, .int .i64 t225, .int .i64 t226, .int .i64 t227, .int .i64 0, .int .i64 0, .int .i64 0, .int .i64 0, .int .i64 0]) ?_ 6 _ rfl; (with_reducible repeat (first | refine blk_drewN ?_ _ | refine blk_drew ?_ | refine blk_alloc ?_ _)); refine blk_put (cs := #[.int .i64 t222, .int .i64 t223, .int .i64 t224, .int .i64 t225, .int .i64 t226, .int .i64 0, .int .i64 0, .int .i64 0, .int .i64 0, .int .i64 0, .int .i64 0]) ?_ 5 _ rfl; (with_reducible repeat (first | refine blk_drewN ?_ _ | refine blk_drew ?_ | refine blk_alloc ?_ _)); refine blk_put (cs := #[.int .i64 t222, .int .i64 t223, .int .i64 t224, .int .i64 t225, .int .i64 0, .int .i64 0, .int .i64 0, .int .i64 0, .int .i64 0, .int .i64 0, .int .i64 0]) ?_ 4 _ rfl; (with_reducible repeat (first | refine blk_drewN ?_ _ | refine blk_drew ?_ | refine blk_alloc ?_ _)); refine blk_put (cs := #[.int .i64 t222, .int .i64 t223, .int .i64 t224, .int .i64 0, .int .i64 0, .int .i64 0, .int .i64 0, .int .i64 0, .int .i64 0, .int .i64 0, .int .i64 0]) ?_ 3 _ rfl; (with_reducible repeat (first | refine blk_drewN ?_ _ | refine blk_drew ?_ | refine blk_alloc ?_ _)); refine blk_put (cs := #[.int .i64 t222, .int .i64 t223, .int .i64 0, .int .i64 0, .int .i64 0, .int .i64 0, .int .i64 0, .int .i64 0, .int .i64 0, .int .i64 0, .int .i64 0]) ?_ 2 _ rfl; (with_reducible repeat (first | refine blk_drewN ?_ _ | refine blk_drew ?_ | refine blk_alloc ?_ _)); refine blk_put (cs := #[.int .i64 t222, .int .i64 0, .int .i64 0, .int .i64 0, .int .i64 0, .int .i64 0, .int .i64 0, .int .i64 0, .int .i64 0, .int .i64 0, .int .i64 0]) ?_ 1 _ rfl; (with_reducible repeat (first | refine blk_drewN ?_ _ | refine blk_drew ?_ | refine blk_alloc ?_ _)); refine blk_put (cs := #[.int .i64 0, .int .i64 0, .int .i64 0, .int .i64 0, .int .i64 0, .int .i64 0, .int .i64 0, .int .i64 0, .int .i64 0, .int .i64 0, .int .i64 0]) ?_ 0 _ rfl; (with_reducible repeat (first | refine blk_drewN ?_ _ | refine blk_drew ?_ | refine blk_alloc ?_ _)); exact BK234.out) hb); have n2_ := Aside0.mk (below_step (by repeat (first | (with_reducible first | exact HB.out | apply below_alloc | apply pw_below_drewN | apply below_drew1 | refine below_set ?_ GE220.out | refine below_set ?_ GE234.out) | exact HB.out)) hb); clear BK220; clear BK234; clear HB; have BK220 := n0_; have BK234 := n1_; have HB := n2_; clear n0_ n1_ n2_; (try clear hb); (try clear hb2); (try clear hk); (try clear hi)))
      go_ret
      exact ⟨by first | rfl | (simp [errW_none, errW_some] <;> rfl) | (simp [*, errW_none, errW_some] <;> rfl), by repeat (first | (with_reducible first | exact HB.out | apply below_alloc | apply pw_below_drewN | apply below_drew1 | refine below_set ?_ GE220.out | refine below_set ?_ GE234.out) | exact HB.out)⟩
  · replace c5 := Bool.eq_false_iff.mpr c5
    subst c5
    have H1 : (some false) = some r := by rw [if_neg (show ¬ (false = true) by decide)] at H; exact H
    clear H
    have H := H1
    clear H1
    obtain rfl := Option.some.inj H
    go_enter Try.func6, Try.ntmps6
    go_wp2_with (first | ((with_reducible refine gate_dst (N := 3) rfl ?_); refine box_event ?hg (N := 3) ?hd (cs := #[.int .i64 a0_0, .int .i64 a0_1, .int .i64 a0_2, .int .i64 a0_3, .int .i64 a0_4, .int .i64 a0_5, .bool a0_6]) (t := 29) ?hr ?_; (case hd => rfl); (case hg => rfl); (case hr => first | (go_simp; done) | (go_simp; rfl)); intro gb220 hg w110 hbox hb; have n0_ := Aside0.mk (below_step (by repeat (first | (with_reducible first | exact HB.out | apply below_alloc | apply pw_below_drewN | apply below_drew1) | exact HB.out)) hb); have n1_ := Aside0.mk (hbox); have n2_ := Aside0.mk ((by rw [hg]; exact (below_size (by repeat (first | (with_reducible first | exact HB.out | apply below_alloc | apply pw_below_drewN | apply below_drew1) | exact HB.out))) : w.heap.size ≤ gb220)); have n3_ := Aside0.mk ((by rw [hg]; exact (below_size (by repeat (first | (with_reducible first | exact HB.out | apply below_alloc | apply pw_below_drewN | apply below_drew1) | exact HB.out))) : w.heap.size ≤ gb220)); clear HB; have HB := n0_; have BK220 := n1_; have GW220 := n2_; have GE220 := n3_; clear n0_ n1_ n2_ n3_; clear hb hbox hg) | ((with_reducible refine gate_callee (f := 8) rfl ?_); refine goesL_ (some 14) rfl rfl Try.func8 (by kernel_rfl) rfl #[] rfl (by (try simp only [List.map_toArray, List.map_cons, List.map_nil]); first | done | rfl | (simp only [List.length_drop, List.length_take]; rfl)) ?_; (with_reducible refine (ferrulelaw16_awake.calls k  false _ A4.out).mono ?_); rintro e w111 ⟨rfl, hb⟩; refine ⟨_, rfl, ?_⟩; have n0_ := Aside0.mk (blk_below (g := gb220) (o := .cells #[.int .i64 a0_0, .int .i64 a0_1, .int .i64 a0_2, .int .i64 a0_3, .int .i64 a0_4, .int .i64 a0_5, .bool a0_6] 29 (0, 0)) (by (with_reducible repeat (first | refine blk_drewN ?_ _ | refine blk_drew ?_ | refine blk_alloc ?_ _)); exact BK220.out) hb); have n1_ := Aside0.mk (below_step (by repeat (first | (with_reducible first | exact HB.out | apply below_alloc | apply pw_below_drewN | apply below_drew1 | refine below_set ?_ GE220.out) | exact HB.out)) hb); clear BK220; clear HB; have BK220 := n0_; have HB := n1_; clear n0_ n1_; (try clear hb); (try clear hb2); (try clear hk); (try clear hi)))
    go_ret
    exact ⟨by first | rfl | (simp [errW_none, errW_some] <;> rfl) | (simp [*, errW_none, errW_some] <;> rfl), by repeat (first | (with_reducible first | exact HB.out | apply below_alloc | apply pw_below_drewN | apply below_drew1 | refine below_set ?_ GE220.out) | exact HB.out)⟩

/-- THE ONE PURE STATEMENT of ferrulelaw16_SizeLess: yours. -/
def ferrulelaw16_SizeLess.Pure : Prop := ∀ (a0_0 : Int) (a0_1 : Int) (a0_2 : Int) (a0_3 : Int) (a0_4 : Int) (a0_5 : Int) (a0_6 : Bool) (a1 : Int) (a2 : Int), (Lit.int .i64 a0_0).wf = true → (Lit.int .i64 a0_1).wf = true → (Lit.int .i64 a0_2).wf = true → (Lit.int .i64 a0_3).wf = true → (Lit.int .i64 a0_4).wf = true → (Lit.int .i64 a0_5).wf = true → (Lit.int .i64 a1).wf = true → (Lit.int .i64 a2).wf = true → ∃ k, ferrulelaw16_SizeLess.f k a0_0 a0_1 a0_2 a0_3 a0_4 a0_5 a0_6 a1 a2 = some true
theorem ferrulelaw16_SizeLess.walk (P : ferrulelaw16_SizeLess.Pure) (a0_0 : Int) (a0_1 : Int) (a0_2 : Int) (a0_3 : Int) (a0_4 : Int) (a0_5 : Int) (a0_6 : Bool) (a1 : Int) (a2 : Int) (w : World) (w0_0 : (Lit.int .i64 a0_0).wf = true) (w0_1 : (Lit.int .i64 a0_1).wf = true) (w0_2 : (Lit.int .i64 a0_2).wf = true) (w0_3 : (Lit.int .i64 a0_3).wf = true) (w0_4 : (Lit.int .i64 a0_4).wf = true) (w0_5 : (Lit.int .i64 a0_5).wf = true) (w1 : (Lit.int .i64 a1).wf = true) (w2 : (Lit.int .i64 a2).wf = true) :
    Calls Try.prog 6 #[.agg #[.int .i64 a0_0, .int .i64 a0_1, .int .i64 a0_2, .int .i64 a0_3, .int .i64 a0_4, .int .i64 a0_5, .bool a0_6], .int .i64 a1, .int .i64 a2] w fun e w' => e = .returned (.bool true) ∧ Below w.heap.size w w' := by
  obtain ⟨k, h⟩ := P a0_0 a0_1 a0_2 a0_3 a0_4 a0_5 a0_6 a1 a2 w0_0 w0_1 w0_2 w0_3 w0_4 w0_5 w1 w2
  refine (ferrulelaw16_SizeLess.calls k a0_0 a0_1 a0_2 a0_3 a0_4 a0_5 a0_6 a1 a2 true w h).mono ?_
  rintro e w' ⟨rfl, hd⟩
  exact ⟨rfl, hd⟩

end Go.Proofs.Ytbeaekknpejnlaa.PSizeLess
