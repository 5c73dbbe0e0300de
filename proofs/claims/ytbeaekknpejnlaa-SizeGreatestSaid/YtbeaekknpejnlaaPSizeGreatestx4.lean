-- By a program of this session (NOTES.md). Lean checks it.
import Derived.Test.YtbeaekknpejnlaaPSizeGreatestx0
import Derived.Test.YtbeaekknpejnlaaPSizeGreatestx2
import Derived.Test.YtbeaekknpejnlaaPSizeGreatestx3
namespace Go.Proofs.Ytbeaekknpejnlaa.PSizeGreatest
open Go.RowKit Go.Proofs.YtbeaekknpejnlaaW.PrintWords Go.Proofs.YtbeaekknpejnlaaW.PrintLast Go.Proofs.YtbeaekknpejnlaaW.PrintMore
attribute [local go_sem] max2_int min2_int max_two min_two max_three min_three max_four min_four   -- for this text's walks alone
set_option linter.unusedVariables false
set_option linter.unusedSimpArgs false

attribute [local go_sem] sc_drewN
/-! ### ferrulelaw16_awake: function 8 -/
def ferrulelaw16_awake.f (k : Nat)  : Option (Bool) := (ferrulelaw16_sample.f).bind fun bt165 => ((size_Of.f k bt165.1 bt165.2.1 bt165.2.2.1 bt165.2.2.2.1 bt165.2.2.2.2.1 bt165.2.2.2.2.2.1 bt165.2.2.2.2.2.2).bind fun bt172 => ((ferrulelaw16_sample.f).bind fun bt185 => ((size_Rewrites.f k bt185.1 bt185.2.1 bt185.2.2.1 bt185.2.2.2.1 bt185.2.2.2.2.1 bt185.2.2.2.2.2.1 bt185.2.2.2.2.2.2 1).bind fun bt192 => ((ferrulelaw16_sample.f).bind fun bt194 => ((size_CallPrograms.f k bt194.1 bt194.2.1 bt194.2.2.1 bt194.2.2.2.1 bt194.2.2.2.2.1 bt194.2.2.2.2.2.1 bt194.2.2.2.2.2.2 1 0).bind fun bt201 => ((ferrulelaw16_sample.f).bind fun bt203 => ((size_Greatest.f k bt203.1 bt203.2.1 bt203.2.2.1 bt203.2.2.2.1 bt203.2.2.2.2.1 bt203.2.2.2.2.2.1 bt203.2.2.2.2.2.2).bind fun bt210 => (if bt172.2.2.2.2.2.2.2.2.2.2.2 = 0 then (if bt192.2 = 0 then (if bt201.2 = 0 then (if bt210.2 = 0 then (if bt172.1 = 4 then (if bt172.2.1 = 7 then (if bt172.2.2.2.2.2.2.2.2.2.2.1 = 168 then ((ferrulelaw16_sample.f).bind fun bt212 => ((size_Good.f k bt212.1 bt212.2.1 bt212.2.2.1 bt212.2.2.2.1 bt212.2.2.2.2.1 bt212.2.2.2.2.2.1 bt212.2.2.2.2.2.2).bind fun t219 => (if t219 = true then (if bt192.1 = 8 then (if bt201.1 = 570 then (some (bt210.1 == 48)) else (some false)) else (some false)) else (some false)))) else (some false)) else (some false)) else (some false)) else (some false)) else (some false)) else (some false)) else (some false)))))))))
theorem ferrulelaw16_awake.mono : ∀ k, LeO (ferrulelaw16_awake.f k ) (ferrulelaw16_awake.f (k + 1) ) := by
  intro  k
  unfold ferrulelaw16_awake.f
  repeat' first
      | (with_reducible exact size_CallPrograms.mono _ _ _ _ _ _ _ _ _ _)
      | (with_reducible exact size_Good.mono _ _ _ _ _ _ _ _)
      | (with_reducible exact size_Greatest.mono _ _ _ _ _ _ _ _)
      | (with_reducible exact size_Of.mono _ _ _ _ _ _ _ _)
      | (with_reducible exact size_Rewrites.mono _ _ _ _ _ _ _ _ _)
      | (with_reducible exact LeO.refl _)
      | (with_reducible exact LeO.none _)
      | (with_reducible refine LeO.ite ?_ ?_)
      | (with_reducible refine LeO.bind ?_ (fun _ => ?_))
      | exact size_CallPrograms.mono _ _ _ _ _ _ _ _ _ _
      | exact size_Good.mono _ _ _ _ _ _ _ _
      | exact size_Greatest.mono _ _ _ _ _ _ _ _
      | exact size_Of.mono _ _ _ _ _ _ _ _
      | exact size_Rewrites.mono _ _ _ _ _ _ _ _ _
      | exact LeO.none _
      | refine LeO.ite ?_ ?_
      | refine LeO.bind ?_ (fun _ => ?_)
theorem awake_r_ (k : Nat) (r : Bool) (h : ferrulelaw16_awake.f k = some r) : r = true := by
  have h1 := at_rounds (fun k => ferrulelaw16_awake.mono k) (Nat.le_max_left k 600) h
  have h2 := at_rounds (fun k => ferrulelaw16_awake.mono k) (Nat.le_max_right k 600) (show ferrulelaw16_awake.f 600 = some true by decide +kernel)
  rw [h1] at h2
  exact Option.some.inj h2
set_option maxHeartbeats 8000000 in
set_option maxRecDepth 100000 in
theorem ferrulelaw16_awake.calls (k : Nat)  (r : Bool) (w : World) (h : ferrulelaw16_awake.f k  = some r) :
    Calls Try.prog 8 #[] w fun e w' => e = .returned (.bool r) ∧ Below w.heap.size w w' := by
  have Hr := awake_r_ k r h
  have hu24 := Try.underlying24
  have HB := Aside0.mk (Below.refl w.heap.size w)
  have H : ((ferrulelaw16_sample.f).bind fun bt165 => ((size_Of.f k bt165.1 bt165.2.1 bt165.2.2.1 bt165.2.2.2.1 bt165.2.2.2.2.1 bt165.2.2.2.2.2.1 bt165.2.2.2.2.2.2).bind fun bt172 => ((ferrulelaw16_sample.f).bind fun bt185 => ((size_Rewrites.f k bt185.1 bt185.2.1 bt185.2.2.1 bt185.2.2.2.1 bt185.2.2.2.2.1 bt185.2.2.2.2.2.1 bt185.2.2.2.2.2.2 1).bind fun bt192 => ((ferrulelaw16_sample.f).bind fun bt194 => ((size_CallPrograms.f k bt194.1 bt194.2.1 bt194.2.2.1 bt194.2.2.2.1 bt194.2.2.2.2.1 bt194.2.2.2.2.2.1 bt194.2.2.2.2.2.2 1 0).bind fun bt201 => ((ferrulelaw16_sample.f).bind fun bt203 => ((size_Greatest.f k bt203.1 bt203.2.1 bt203.2.2.1 bt203.2.2.2.1 bt203.2.2.2.2.1 bt203.2.2.2.2.2.1 bt203.2.2.2.2.2.2).bind fun bt210 => (if bt172.2.2.2.2.2.2.2.2.2.2.2 = 0 then (if bt192.2 = 0 then (if bt201.2 = 0 then (if bt210.2 = 0 then (if bt172.1 = 4 then (if bt172.2.1 = 7 then (if bt172.2.2.2.2.2.2.2.2.2.2.1 = 168 then ((ferrulelaw16_sample.f).bind fun bt212 => ((size_Good.f k bt212.1 bt212.2.1 bt212.2.2.1 bt212.2.2.2.1 bt212.2.2.2.2.1 bt212.2.2.2.2.2.1 bt212.2.2.2.2.2.2).bind fun t219 => (if t219 = true then (if bt192.1 = 8 then (if bt201.1 = 570 then (some (bt210.1 == 48)) else (some false)) else (some false)) else (some false)))) else (some false)) else (some false)) else (some false)) else (some false)) else (some false)) else (some false)) else (some false)))))))))) = some r := h
  clear h
  replace H := Option.bind_eq_some_iff.mp H
  obtain ⟨⟨t165, t166, t167, t168, t169, t170, t171⟩, A10, H⟩ := H
  replace H : ((size_Of.f k t165 t166 t167 t168 t169 t170 t171).bind fun bt172 => ((ferrulelaw16_sample.f).bind fun bt185 => ((size_Rewrites.f k bt185.1 bt185.2.1 bt185.2.2.1 bt185.2.2.2.1 bt185.2.2.2.2.1 bt185.2.2.2.2.2.1 bt185.2.2.2.2.2.2 1).bind fun bt192 => ((ferrulelaw16_sample.f).bind fun bt194 => ((size_CallPrograms.f k bt194.1 bt194.2.1 bt194.2.2.1 bt194.2.2.2.1 bt194.2.2.2.2.1 bt194.2.2.2.2.2.1 bt194.2.2.2.2.2.2 1 0).bind fun bt201 => ((ferrulelaw16_sample.f).bind fun bt203 => ((size_Greatest.f k bt203.1 bt203.2.1 bt203.2.2.1 bt203.2.2.2.1 bt203.2.2.2.2.1 bt203.2.2.2.2.2.1 bt203.2.2.2.2.2.2).bind fun bt210 => (if bt172.2.2.2.2.2.2.2.2.2.2.2 = 0 then (if bt192.2 = 0 then (if bt201.2 = 0 then (if bt210.2 = 0 then (if bt172.1 = 4 then (if bt172.2.1 = 7 then (if bt172.2.2.2.2.2.2.2.2.2.2.1 = 168 then ((ferrulelaw16_sample.f).bind fun bt212 => ((size_Good.f k bt212.1 bt212.2.1 bt212.2.2.1 bt212.2.2.2.1 bt212.2.2.2.2.1 bt212.2.2.2.2.2.1 bt212.2.2.2.2.2.2).bind fun t219 => (if t219 = true then (if bt192.1 = 8 then (if bt201.1 = 570 then (some (bt210.1 == 48)) else (some false)) else (some false)) else (some false)))) else (some false)) else (some false)) else (some false)) else (some false)) else (some false)) else (some false)) else (some false))))))))) = some r := H
  have A1 := Aside0.mk A10
  clear A10
  replace H := Option.bind_eq_some_iff.mp H
  obtain ⟨⟨t172, t173, t174, t175, t176, t177, t178, t179, t180, t181, t182, t183⟩, A20, H⟩ := H
  replace H : ((ferrulelaw16_sample.f).bind fun bt185 => ((size_Rewrites.f k bt185.1 bt185.2.1 bt185.2.2.1 bt185.2.2.2.1 bt185.2.2.2.2.1 bt185.2.2.2.2.2.1 bt185.2.2.2.2.2.2 1).bind fun bt192 => ((ferrulelaw16_sample.f).bind fun bt194 => ((size_CallPrograms.f k bt194.1 bt194.2.1 bt194.2.2.1 bt194.2.2.2.1 bt194.2.2.2.2.1 bt194.2.2.2.2.2.1 bt194.2.2.2.2.2.2 1 0).bind fun bt201 => ((ferrulelaw16_sample.f).bind fun bt203 => ((size_Greatest.f k bt203.1 bt203.2.1 bt203.2.2.1 bt203.2.2.2.1 bt203.2.2.2.2.1 bt203.2.2.2.2.2.1 bt203.2.2.2.2.2.2).bind fun bt210 => (if t183 = 0 then (if bt192.2 = 0 then (if bt201.2 = 0 then (if bt210.2 = 0 then (if t172 = 4 then (if t173 = 7 then (if t182 = 168 then ((ferrulelaw16_sample.f).bind fun bt212 => ((size_Good.f k bt212.1 bt212.2.1 bt212.2.2.1 bt212.2.2.2.1 bt212.2.2.2.2.1 bt212.2.2.2.2.2.1 bt212.2.2.2.2.2.2).bind fun t219 => (if t219 = true then (if bt192.1 = 8 then (if bt201.1 = 570 then (some (bt210.1 == 48)) else (some false)) else (some false)) else (some false)))) else (some false)) else (some false)) else (some false)) else (some false)) else (some false)) else (some false)) else (some false)))))))) = some r := H
  have A2 := Aside0.mk A20
  clear A20
  replace H := Option.bind_eq_some_iff.mp H
  obtain ⟨⟨t185, t186, t187, t188, t189, t190, t191⟩, A30, H⟩ := H
  replace H : ((size_Rewrites.f k t185 t186 t187 t188 t189 t190 t191 1).bind fun bt192 => ((ferrulelaw16_sample.f).bind fun bt194 => ((size_CallPrograms.f k bt194.1 bt194.2.1 bt194.2.2.1 bt194.2.2.2.1 bt194.2.2.2.2.1 bt194.2.2.2.2.2.1 bt194.2.2.2.2.2.2 1 0).bind fun bt201 => ((ferrulelaw16_sample.f).bind fun bt203 => ((size_Greatest.f k bt203.1 bt203.2.1 bt203.2.2.1 bt203.2.2.2.1 bt203.2.2.2.2.1 bt203.2.2.2.2.2.1 bt203.2.2.2.2.2.2).bind fun bt210 => (if t183 = 0 then (if bt192.2 = 0 then (if bt201.2 = 0 then (if bt210.2 = 0 then (if t172 = 4 then (if t173 = 7 then (if t182 = 168 then ((ferrulelaw16_sample.f).bind fun bt212 => ((size_Good.f k bt212.1 bt212.2.1 bt212.2.2.1 bt212.2.2.2.1 bt212.2.2.2.2.1 bt212.2.2.2.2.2.1 bt212.2.2.2.2.2.2).bind fun t219 => (if t219 = true then (if bt192.1 = 8 then (if bt201.1 = 570 then (some (bt210.1 == 48)) else (some false)) else (some false)) else (some false)))) else (some false)) else (some false)) else (some false)) else (some false)) else (some false)) else (some false)) else (some false))))))) = some r := H
  have A3 := Aside0.mk A30
  clear A30
  replace H := Option.bind_eq_some_iff.mp H
  obtain ⟨⟨t192, t193⟩, A40, H⟩ := H
  replace H : ((ferrulelaw16_sample.f).bind fun bt194 => ((size_CallPrograms.f k bt194.1 bt194.2.1 bt194.2.2.1 bt194.2.2.2.1 bt194.2.2.2.2.1 bt194.2.2.2.2.2.1 bt194.2.2.2.2.2.2 1 0).bind fun bt201 => ((ferrulelaw16_sample.f).bind fun bt203 => ((size_Greatest.f k bt203.1 bt203.2.1 bt203.2.2.1 bt203.2.2.2.1 bt203.2.2.2.2.1 bt203.2.2.2.2.2.1 bt203.2.2.2.2.2.2).bind fun bt210 => (if t183 = 0 then (if t193 = 0 then (if bt201.2 = 0 then (if bt210.2 = 0 then (if t172 = 4 then (if t173 = 7 then (if t182 = 168 then ((ferrulelaw16_sample.f).bind fun bt212 => ((size_Good.f k bt212.1 bt212.2.1 bt212.2.2.1 bt212.2.2.2.1 bt212.2.2.2.2.1 bt212.2.2.2.2.2.1 bt212.2.2.2.2.2.2).bind fun t219 => (if t219 = true then (if t192 = 8 then (if bt201.1 = 570 then (some (bt210.1 == 48)) else (some false)) else (some false)) else (some false)))) else (some false)) else (some false)) else (some false)) else (some false)) else (some false)) else (some false)) else (some false)))))) = some r := H
  have A4 := Aside0.mk A40
  clear A40
  replace H := Option.bind_eq_some_iff.mp H
  obtain ⟨⟨t194, t195, t196, t197, t198, t199, t200⟩, A50, H⟩ := H
  replace H : ((size_CallPrograms.f k t194 t195 t196 t197 t198 t199 t200 1 0).bind fun bt201 => ((ferrulelaw16_sample.f).bind fun bt203 => ((size_Greatest.f k bt203.1 bt203.2.1 bt203.2.2.1 bt203.2.2.2.1 bt203.2.2.2.2.1 bt203.2.2.2.2.2.1 bt203.2.2.2.2.2.2).bind fun bt210 => (if t183 = 0 then (if t193 = 0 then (if bt201.2 = 0 then (if bt210.2 = 0 then (if t172 = 4 then (if t173 = 7 then (if t182 = 168 then ((ferrulelaw16_sample.f).bind fun bt212 => ((size_Good.f k bt212.1 bt212.2.1 bt212.2.2.1 bt212.2.2.2.1 bt212.2.2.2.2.1 bt212.2.2.2.2.2.1 bt212.2.2.2.2.2.2).bind fun t219 => (if t219 = true then (if t192 = 8 then (if bt201.1 = 570 then (some (bt210.1 == 48)) else (some false)) else (some false)) else (some false)))) else (some false)) else (some false)) else (some false)) else (some false)) else (some false)) else (some false)) else (some false))))) = some r := H
  have A5 := Aside0.mk A50
  clear A50
  replace H := Option.bind_eq_some_iff.mp H
  obtain ⟨⟨t201, t202⟩, A60, H⟩ := H
  replace H : ((ferrulelaw16_sample.f).bind fun bt203 => ((size_Greatest.f k bt203.1 bt203.2.1 bt203.2.2.1 bt203.2.2.2.1 bt203.2.2.2.2.1 bt203.2.2.2.2.2.1 bt203.2.2.2.2.2.2).bind fun bt210 => (if t183 = 0 then (if t193 = 0 then (if t202 = 0 then (if bt210.2 = 0 then (if t172 = 4 then (if t173 = 7 then (if t182 = 168 then ((ferrulelaw16_sample.f).bind fun bt212 => ((size_Good.f k bt212.1 bt212.2.1 bt212.2.2.1 bt212.2.2.2.1 bt212.2.2.2.2.1 bt212.2.2.2.2.2.1 bt212.2.2.2.2.2.2).bind fun t219 => (if t219 = true then (if t192 = 8 then (if t201 = 570 then (some (bt210.1 == 48)) else (some false)) else (some false)) else (some false)))) else (some false)) else (some false)) else (some false)) else (some false)) else (some false)) else (some false)) else (some false)))) = some r := H
  have A6 := Aside0.mk A60
  clear A60
  replace H := Option.bind_eq_some_iff.mp H
  obtain ⟨⟨t203, t204, t205, t206, t207, t208, t209⟩, A70, H⟩ := H
  replace H : ((size_Greatest.f k t203 t204 t205 t206 t207 t208 t209).bind fun bt210 => (if t183 = 0 then (if t193 = 0 then (if t202 = 0 then (if bt210.2 = 0 then (if t172 = 4 then (if t173 = 7 then (if t182 = 168 then ((ferrulelaw16_sample.f).bind fun bt212 => ((size_Good.f k bt212.1 bt212.2.1 bt212.2.2.1 bt212.2.2.2.1 bt212.2.2.2.2.1 bt212.2.2.2.2.2.1 bt212.2.2.2.2.2.2).bind fun t219 => (if t219 = true then (if t192 = 8 then (if t201 = 570 then (some (bt210.1 == 48)) else (some false)) else (some false)) else (some false)))) else (some false)) else (some false)) else (some false)) else (some false)) else (some false)) else (some false)) else (some false))) = some r := H
  have A7 := Aside0.mk A70
  clear A70
  replace H := Option.bind_eq_some_iff.mp H
  obtain ⟨⟨t210, t211⟩, A80, H⟩ := H
  replace H : (if t183 = 0 then (if t193 = 0 then (if t202 = 0 then (if t211 = 0 then (if t172 = 4 then (if t173 = 7 then (if t182 = 168 then ((ferrulelaw16_sample.f).bind fun bt212 => ((size_Good.f k bt212.1 bt212.2.1 bt212.2.2.1 bt212.2.2.2.1 bt212.2.2.2.2.1 bt212.2.2.2.2.2.1 bt212.2.2.2.2.2.2).bind fun t219 => (if t219 = true then (if t192 = 8 then (if t201 = 570 then (some (t210 == 48)) else (some false)) else (some false)) else (some false)))) else (some false)) else (some false)) else (some false)) else (some false)) else (some false)) else (some false)) else (some false)) = some r := H
  have A8 := Aside0.mk A80
  clear A80
  by_cases c9 : t183 = 0
  · rw [if_pos c9] at H
    have c9b0 : (t183 == 0) = true := beq_iff_eq.mpr c9
    have c9b1 : (t183 != 0) = false := bne_eq_false_iff_eq.mpr c9
    clear c9
    by_cases c10 : t193 = 0
    · rw [if_pos c10] at H
      have c10b0 : (t193 == 0) = true := beq_iff_eq.mpr c10
      have c10b1 : (t193 != 0) = false := bne_eq_false_iff_eq.mpr c10
      clear c10
      by_cases c11 : t202 = 0
      · rw [if_pos c11] at H
        have c11b0 : (t202 == 0) = true := beq_iff_eq.mpr c11
        have c11b1 : (t202 != 0) = false := bne_eq_false_iff_eq.mpr c11
        clear c11
        by_cases c12 : t211 = 0
        · rw [if_pos c12] at H
          have c12b0 : (t211 == 0) = true := beq_iff_eq.mpr c12
          have c12b1 : (t211 != 0) = false := bne_eq_false_iff_eq.mpr c12
          clear c12
          by_cases c13 : t172 = 4
          · rw [if_pos c13] at H
            have c13b0 : (t172 == 4) = true := beq_iff_eq.mpr c13
            have c13b1 : (t172 != 4) = false := bne_eq_false_iff_eq.mpr c13
            clear c13
            by_cases c14 : t173 = 7
            · rw [if_pos c14] at H
              have c14b0 : (t173 == 7) = true := beq_iff_eq.mpr c14
              have c14b1 : (t173 != 7) = false := bne_eq_false_iff_eq.mpr c14
              clear c14
              by_cases c15 : t182 = 168
              · rw [if_pos c15] at H
                have c15b0 : (t182 == 168) = true := beq_iff_eq.mpr c15
                have c15b1 : (t182 != 168) = false := bne_eq_false_iff_eq.mpr c15
                clear c15
                replace H := Option.bind_eq_some_iff.mp H
                obtain ⟨⟨t212, t213, t214, t215, t216, t217, t218⟩, A160, H⟩ := H
                replace H : ((size_Good.f k t212 t213 t214 t215 t216 t217 t218).bind fun t219 => (if t219 = true then (if t192 = 8 then (if t201 = 570 then (some (t210 == 48)) else (some false)) else (some false)) else (some false))) = some r := H
                have A16 := Aside0.mk A160
                clear A160
                replace H := Option.bind_eq_some_iff.mp H
                obtain ⟨t219, A170, H⟩ := H
                replace H : (if t219 = true then (if t192 = 8 then (if t201 = 570 then (some (t210 == 48)) else (some false)) else (some false)) else (some false)) = some r := H
                have A17 := Aside0.mk A170
                clear A170
                by_cases c18 : t219 = true
                · subst c18
                  have H1 : (if t192 = 8 then (if t201 = 570 then (some (t210 == 48)) else (some false)) else (some false)) = some r := by rw [if_pos rfl] at H; exact H
                  clear H
                  have H := H1
                  clear H1
                  by_cases c19 : t192 = 8
                  · rw [if_pos c19] at H
                    have c19b0 : (t192 == 8) = true := beq_iff_eq.mpr c19
                    have c19b1 : (t192 != 8) = false := bne_eq_false_iff_eq.mpr c19
                    clear c19
                    by_cases c20 : t201 = 570
                    · rw [if_pos c20] at H
                      have c20b0 : (t201 == 570) = true := beq_iff_eq.mpr c20
                      have c20b1 : (t201 != 570) = false := bne_eq_false_iff_eq.mpr c20
                      clear c20
                      obtain rfl := Option.some.inj H
                      go_enter Try.func8, Try.ntmps8
                      go_wp2_with (first | ((with_reducible refine gate_callee (f := 10) rfl ?_); refine goesL_ (some 10) rfl rfl Try.func10 (by kernel_rfl) rfl #[] rfl (by (try simp only [List.map_toArray, List.map_cons, List.map_nil]); first | done | rfl | (simp only [List.length_drop, List.length_take]; rfl)) ?_; (with_reducible refine (ferrulelaw16_sample.calls  t165 t166 t167 t168 t169 t170 t171 _ A1.out).mono ?_); rintro e w21 ⟨rfl, hb⟩; refine ⟨_, rfl, ?_⟩; have n0_ := Aside0.mk (below_step (by repeat (first | (with_reducible first | exact HB.out | apply below_alloc | apply pw_below_drewN | apply below_drew1) | exact HB.out)) hb); clear HB; have HB := n0_; clear n0_; (try clear hb); (try clear hb2); (try clear hk); (try clear hi)) | ((with_reducible refine gate_callee (f := 9) rfl ?_); refine goesL_ (some 11) rfl rfl Try.func9 (by kernel_rfl) rfl #[.agg #[.int .i64 t165, .int .i64 t166, .int .i64 t167, .int .i64 t168, .int .i64 t169, .int .i64 t170, .bool t171]] rfl (by (try simp only [List.map_toArray, List.map_cons, List.map_nil]); first | done | rfl | (simp only [List.length_drop, List.length_take]; rfl)) ?_; (with_reducible refine (size_Of.calls k t165 t166 t167 t168 t169 t170 t171 t172 t173 t174 t175 t176 t177 t178 t179 t180 t181 t182 t183 _ A2.out).mono ?_); rintro e w22 ⟨rfl, hb⟩; refine ⟨_, rfl, ?_⟩; have n0_ := Aside0.mk (below_step (by repeat (first | (with_reducible first | exact HB.out | apply below_alloc | apply pw_below_drewN | apply below_drew1) | exact HB.out)) hb); clear HB; have HB := n0_; clear n0_; (try clear hb); (try clear hb2); (try clear hk); (try clear hi)) | ((with_reducible refine gate_dst (N := 1) rfl ?_); refine box_event ?hg (N := 1) ?hd (cs := #[.int .i64 0, .int .i64 0, .int .i64 0, .int .i64 0, .int .i64 0, .int .i64 0, .int .i64 0, .int .i64 0, .int .i64 0, .int .i64 0, .int .i64 0]) (t := 24) ?hr ?_; (case hd => rfl); (case hg => rfl); (case hr => first | (go_simp; done) | (go_simp; rfl)); intro gb184 hg w23 hbox hb; have n0_ := Aside0.mk (below_step (by repeat (first | (with_reducible first | exact HB.out | apply below_alloc | apply pw_below_drewN | apply below_drew1) | exact HB.out)) hb); have n1_ := Aside0.mk (hbox); have n2_ := Aside0.mk ((by rw [hg]; exact (below_size (by repeat (first | (with_reducible first | exact HB.out | apply below_alloc | apply pw_below_drewN | apply below_drew1) | exact HB.out))) : w.heap.size ≤ gb184)); have n3_ := Aside0.mk ((by rw [hg]; exact (below_size (by repeat (first | (with_reducible first | exact HB.out | apply below_alloc | apply pw_below_drewN | apply below_drew1) | exact HB.out))) : w.heap.size ≤ gb184)); clear HB; have HB := n0_; have BK184 := n1_; have GW184 := n2_; have GE184 := n3_; clear n0_ n1_ n2_ n3_; clear hb hbox hg; have hcz24_0 : w23.cell? ⟨gb184, 0, none⟩ = some (.int .i64 0) := (blk_cell BK184.out 0).trans rfl; have hcz24_1 : w23.cell? ⟨gb184, 1, none⟩ = some (.int .i64 0) := (blk_cell BK184.out 1).trans rfl; have hcz24_2 : w23.cell? ⟨gb184, 2, none⟩ = some (.int .i64 0) := (blk_cell BK184.out 2).trans rfl; have hcz24_3 : w23.cell? ⟨gb184, 3, none⟩ = some (.int .i64 0) := (blk_cell BK184.out 3).trans rfl; have hcz24_4 : w23.cell? ⟨gb184, 4, none⟩ = some (.int .i64 0) := (blk_cell BK184.out 4).trans rfl; have hcz24_5 : w23.cell? ⟨gb184, 5, none⟩ = some (.int .i64 0) := (blk_cell BK184.out 5).trans rfl; have hcz24_6 : w23.cell? ⟨gb184, 6, none⟩ = some (.int .i64 0) := (blk_cell BK184.out 6).trans rfl; have hcz24_7 : w23.cell? ⟨gb184, 7, none⟩ = some (.int .i64 0) := (blk_cell BK184.out 7).trans rfl; have hcz24_8 : w23.cell? ⟨gb184, 8, none⟩ = some (.int .i64 0) := (blk_cell BK184.out 8).trans rfl; have hcz24_9 : w23.cell? ⟨gb184, 9, none⟩ = some (.int .i64 0) := (blk_cell BK184.out 9).trans rfl; have hcz24_10 : w23.cell? ⟨gb184, 10, none⟩ = some (.int .i64 0) := (blk_cell BK184.out 10).trans rfl; have hfz24_0 := blk_frozen BK184.out 0; have hfz24_1 := blk_frozen BK184.out 1; have hfz24_2 := blk_frozen BK184.out 2; have hfz24_3 := blk_frozen BK184.out 3; have hfz24_4 := blk_frozen BK184.out 4; have hfz24_5 := blk_frozen BK184.out 5; have hfz24_6 := blk_frozen BK184.out 6; have hfz24_7 := blk_frozen BK184.out 7; have hfz24_8 := blk_frozen BK184.out 8; have hfz24_9 := blk_frozen BK184.out 9; have hfz24_10 := blk_frozen BK184.out 10) | ((with_reducible refine gate_callee (f := 10) rfl ?_); refine goesL_ (some 15) rfl rfl Try.func10 (by kernel_rfl) rfl #[] rfl (by (try simp only [List.map_toArray, List.map_cons, List.map_nil]); first | done | rfl | (simp only [List.length_drop, List.length_take]; rfl)) ?_; (with_reducible refine (ferrulelaw16_sample.calls  t185 t186 t187 t188 t189 t190 t191 _ A3.out).mono ?_); rintro e w25 ⟨rfl, hb⟩; refine ⟨_, rfl, ?_⟩; have n0_ := Aside0.mk (blk_below (g := gb184) (o := .cells #[.int .i64 t172, .int .i64 t173, .int .i64 t174, .int .i64 t175, .int .i64 t176, .int .i64 t177, .int .i64 t178, .int .i64 t179, .int .i64 t180, .int .i64 t181, .int .i64 t182] 24 (0, 0)) (by (with_reducible repeat (first | refine blk_drewN ?_ _ | refine blk_drew ?_ | refine blk_alloc ?_ _)); refine blk_put (cs := #[.int .i64 t172, .int .i64 t173, .int .i64 t174, .int .i64 t175, .int .i64 t176, .int .i64 t177, .int .i64 t178, .int .i64 t179, .int .i64 t180, .int .i64 t181, .int .i64 0]) ?_ 10 _ rfl; (with_reducible repeat (first | refine blk_drewN ?_ _ | refine blk_drew ?_ | refine blk_alloc ?_ _)); refine blk_put (cs := #[.int .i64 t172, .int .i64 t173, .int .i64 t174, .int .i64 t175, .int .i64 t176, .int .i64 t177, .int .i64 t178, .int .i64 t179, .int .i64 t180, .int .i64 0, .int .i64 0]) ?_ 9 _ rfl; (with_reducible repeat (first | refine blk_drewN ?_ _ | refine blk_drew ?_ | refine blk_alloc ?_ _)); refine blk_put (cs := #[.int .i64 t172, .int .i64 t173, .int .i64 t174, .int .i64 t175, .int .i64 t176, .int .i64 t177, .int .i64 t178, .int .i64 t179, .int .i64 0, .int .i64 0, .int .i64 0]) ?_ 8 _ rfl; (with_reducible repeat (first | refine blk_drewN ?_ _ | refine blk_drew ?_ | refine blk_alloc ?_ _)); refine blk_put (cs := #[.int .i64 t172, .int .i64 t173, .int .i64 t174, .int .i64 t175, .int .i64 t176, .int .i64 t177, .int .i64 t178, .int .i64 0, .int .i64 0, .int .i64 0, .int .i64 0]) ?_ 7 _ rfl; (with_reducible repeat (first | refine blk_drewN ?_ _ | refine blk_drew ?_ | refine blk_alloc ?_ _)); refine blk_put (cs := #[.int .i64 t172, .int .i64 t173, .int .i64 t174, .int .i64 t175, .int .i64 t176, .int .i64 t177, .int .i64 0, .int .i64 0, .int .i64 0, .int .i64 0, .int .i64 0]) ?_ 6 _ rfl; (with_reducible repeat (first | refine blk_drewN ?_ _ | refine blk_drew ?_ | refine blk_alloc ?_ _)); refine blk_put (cs := #[.int .i64 t172, .int .i64 t173, .int .i64 t174, .int .i64 t175, .int .i64 t176, .int .i64 0, .int .i64 0, .int .i64 0, .int .i64 0, .int .i64 0, .int .i64 0]) ?_ 5 _ rfl; (with_reducible repeat (first | refine blk_drewN ?_ _ | refine blk_drew ?_ | refine blk_alloc ?_ _)); refine blk_put (cs := #[.int .i64 t172, .int .i64 t173, .int .i64 t174, .int .i64 t175, .int .i64 0, .int .i64 0, .int .i64 0, .int .i64 0, .int .i64 0, .int .i64 0, .int .i64 0]) ?_ 4 _ rfl; (with_reducible repeat (first | refine blk_drewN ?_ _ | refine blk_drew ?_ | refine blk_alloc ?_ _)); refine blk_put (cs := #[.int .i64 t172, .int .i64 t173, .int .i64 t174, .int .i64 0, .int .i64 0, .int .i64 0, .int .i64 0, .int .i64 0, .int .i64 0, .int .i64 0, .int .i64 0]) ?_ 3 _ rfl; (with_reducible repeat (first | refine blk_drewN ?_ _ | refine blk_drew ?_ | refine blk_alloc ?_ _)); refine blk_put (cs := #[.int .i64 t172, .int .i64 t173, .int .i64 0, .int .i64 0, .int .i64 0, .int .i64 0, .int .i64 0, .int .i64 0, .int .i64 0, .int .i64 0, .int .i64 0]) ?_ 2 _ rfl; (with_reducible repeat (first | refine blk_drewN ?_ _ | refine blk_drew ?_ | refine blk_alloc ?_ _)); refine blk_put (cs := #[.int .i64 t172, .int .i64 0, .int .i64 0, .int .i64 0, .int .i64 0, .int .i64 0, .int .i64 0, .int .i64 0, .int .i64 0, .int .i64 0, .int .i64 0]) ?_ 1 _ rfl; (with_reducible repeat (first | refine blk_drewN ?_ _ | refine blk_drew ?_ | refine blk_alloc ?_ _)); refine blk_put (cs := #[.int .i64 0, .int .i64 0, .int .i64 0, .int .i64 0, .int .i64 0, .int .i64 0, .int .i64 0, .int .i64 0, .int .i64 0, .int .i64 0, .int .i64 0]) ?_ 0 _ rfl; (with_reducible repeat (first | refine blk_drewN ?_ _ | refine blk_drew ?_ | refine blk_alloc ?_ _)); exact BK184.out) hb); have n1_ := Aside0.mk (below_step (by repeat (first | (with_reducible first | exact HB.out | apply below_alloc | apply pw_below_drewN | apply below_drew1 | refine below_set ?_ GE184.out) | exact HB.out)) hb); clear BK184; clear HB; have BK184 := n0_; have HB := n1_; clear n0_ n1_; (try clear hb); (try clear hb2); (try clear hk); (try clear hi)) | ((with_reducible refine gate_callee (f := 17) rfl ?_); refine goesL_ (some 16) rfl rfl Try.func17 (by kernel_rfl) rfl #[.agg #[.int .i64 t185, .int .i64 t186, .int .i64 t187, .int .i64 t188, .int .i64 t189, .int .i64 t190, .bool t191], .int .i64 1] rfl (by (try simp only [List.map_toArray, List.map_cons, List.map_nil]); first | done | rfl | (simp only [List.length_drop, List.length_take]; rfl)) ?_; (with_reducible refine (size_Rewrites.calls k t185 t186 t187 t188 t189 t190 t191 1 t192 t193 _ A4.out).mono ?_); rintro e w26 ⟨rfl, hb⟩; refine ⟨_, rfl, ?_⟩; have n0_ := Aside0.mk (blk_below (g := gb184) (o := .cells #[.int .i64 t172, .int .i64 t173, .int .i64 t174, .int .i64 t175, .int .i64 t176, .int .i64 t177, .int .i64 t178, .int .i64 t179, .int .i64 t180, .int .i64 t181, .int .i64 t182] 24 (0, 0)) (by (with_reducible repeat (first | refine blk_drewN ?_ _ | refine blk_drew ?_ | refine blk_alloc ?_ _)); exact BK184.out) hb); have n1_ := Aside0.mk (below_step (by repeat (first | (with_reducible first | exact HB.out | apply below_alloc | apply pw_below_drewN | apply below_drew1 | refine below_set ?_ GE184.out) | exact HB.out)) hb); clear BK184; clear HB; have BK184 := n0_; have HB := n1_; clear n0_ n1_; (try clear hb); (try clear hb2); (try clear hk); (try clear hi)) | ((with_reducible refine gate_callee (f := 10) rfl ?_); refine goesL_ (some 20) rfl rfl Try.func10 (by kernel_rfl) rfl #[] rfl (by (try simp only [List.map_toArray, List.map_cons, List.map_nil]); first | done | rfl | (simp only [List.length_drop, List.length_take]; rfl)) ?_; (with_reducible refine (ferrulelaw16_sample.calls  t194 t195 t196 t197 t198 t199 t200 _ A5.out).mono ?_); rintro e w27 ⟨rfl, hb⟩; refine ⟨_, rfl, ?_⟩; have n0_ := Aside0.mk (blk_below (g := gb184) (o := .cells #[.int .i64 t172, .int .i64 t173, .int .i64 t174, .int .i64 t175, .int .i64 t176, .int .i64 t177, .int .i64 t178, .int .i64 t179, .int .i64 t180, .int .i64 t181, .int .i64 t182] 24 (0, 0)) (by (with_reducible repeat (first | refine blk_drewN ?_ _ | refine blk_drew ?_ | refine blk_alloc ?_ _)); exact BK184.out) hb); have n1_ := Aside0.mk (below_step (by repeat (first | (with_reducible first | exact HB.out | apply below_alloc | apply pw_below_drewN | apply below_drew1 | refine below_set ?_ GE184.out) | exact HB.out)) hb); clear BK184; clear HB; have BK184 := n0_; have HB := n1_; clear n0_ n1_; (try clear hb); (try clear hb2); (try clear hk); (try clear hi)) | ((with_reducible refine gate_callee (f := 11) rfl ?_); refine goesL_ (some 21) rfl rfl Try.func11 (by kernel_rfl) rfl #[.agg #[.int .i64 t194, .int .i64 t195, .int .i64 t196, .int .i64 t197, .int .i64 t198, .int .i64 t199, .bool t200], .int .i64 1, .int .i64 0] rfl (by (try simp only [List.map_toArray, List.map_cons, List.map_nil]); first | done | rfl | (simp only [List.length_drop, List.length_take]; rfl)) ?_; (with_reducible refine (size_CallPrograms.calls k t194 t195 t196 t197 t198 t199 t200 1 0 t201 t202 _ A6.out).mono ?_); rintro e w28 ⟨rfl, hb⟩; refine ⟨_, rfl, ?_⟩; have n0_ := Aside0.mk (blk_below (g := gb184) (o := .cells #[.int .i64 t172, .int .i64 t173, .int .i64 t174, .int .i64 t175, .int .i64 t176, .int .i64 t177, .int .i64 t178, .int .i64 t179, .int .i64 t180, .int .i64 t181, .int .i64 t182] 24 (0, 0)) (by (with_reducible repeat (first | refine blk_drewN ?_ _ | refine blk_drew ?_ | refine blk_alloc ?_ _)); exact BK184.out) hb); have n1_ := Aside0.mk (below_step (by repeat (first | (with_reducible first | exact HB.out | apply below_alloc | apply pw_below_drewN | apply below_drew1 | refine below_set ?_ GE184.out) | exact HB.out)) hb); clear BK184; clear HB; have BK184 := n0_; have HB := n1_; clear n0_ n1_; (try clear hb); (try clear hb2); (try clear hk); (try clear hi)) | ((with_reducible refine gate_callee (f := 10) rfl ?_); refine goesL_ (some 25) rfl rfl Try.func10 (by kernel_rfl) rfl #[] rfl (by (try simp only [List.map_toArray, List.map_cons, List.map_nil]); first | done | rfl | (simp only [List.length_drop, List.length_take]; rfl)) ?_; (with_reducible refine (ferrulelaw16_sample.calls  t203 t204 t205 t206 t207 t208 t209 _ A7.out).mono ?_); rintro e w29 ⟨rfl, hb⟩; refine ⟨_, rfl, ?_⟩; have n0_ := Aside0.mk (blk_below (g := gb184) (o := .cells #[.int .i64 t172, .int .i64 t173, .int .i64 t174, .int .i64 t175, .int .i64 t176, .int .i64 t177, .int .i64 t178, .int .i64 t179, .int .i64 t180, .int .i64 t181, .int .i64 t182] 24 (0, 0)) (by (with_reducible repeat (first | refine blk_drewN ?_ _ | refine blk_drew ?_ | refine blk_alloc ?_ _)); exact BK184.out) hb); have n1_ := Aside0.mk (below_step (by repeat (first | (with_reducible first | exact HB.out | apply below_alloc | apply pw_below_drewN | apply below_drew1 | refine below_set ?_ GE184.out) | exact HB.out)) hb); clear BK184; clear HB; have BK184 := n0_; have HB := n1_; clear n0_ n1_; (try clear hb); (try clear hb2); (try clear hk); (try clear hi)) | ((with_reducible refine gate_callee (f := 20) rfl ?_); refine goesL_ (some 26) rfl rfl Try.func20 (by kernel_rfl) rfl #[.agg #[.int .i64 t203, .int .i64 t204, .int .i64 t205, .int .i64 t206, .int .i64 t207, .int .i64 t208, .bool t209]] rfl (by (try simp only [List.map_toArray, List.map_cons, List.map_nil]); first | done | rfl | (simp only [List.length_drop, List.length_take]; rfl)) ?_; (with_reducible refine (size_Greatest.calls k t203 t204 t205 t206 t207 t208 t209 t210 t211 _ A8.out).mono ?_); rintro e w30 ⟨rfl, hb⟩; refine ⟨_, rfl, ?_⟩; have n0_ := Aside0.mk (blk_below (g := gb184) (o := .cells #[.int .i64 t172, .int .i64 t173, .int .i64 t174, .int .i64 t175, .int .i64 t176, .int .i64 t177, .int .i64 t178, .int .i64 t179, .int .i64 t180, .int .i64 t181, .int .i64 t182] 24 (0, 0)) (by (with_reducible repeat (first | refine blk_drewN ?_ _ | refine blk_drew ?_ | refine blk_alloc ?_ _)); exact BK184.out) hb); have n1_ := Aside0.mk (below_step (by repeat (first | (with_reducible first | exact HB.out | apply below_alloc | apply pw_below_drewN | apply below_drew1 | refine below_set ?_ GE184.out) | exact HB.out)) hb); clear BK184; clear HB; have BK184 := n0_; have HB := n1_; clear n0_ n1_; (try clear hb); (try clear hb2); (try clear hk); (try clear hi); have hcz31_0 : w30.cell? ⟨gb184, 0, none⟩ = some (.int .i64 t172) := (blk_cell BK184.out 0).trans rfl; have hcz31_1 : w30.cell? ⟨gb184, 1, none⟩ = some (.int .i64 t173) := (blk_cell BK184.out 1).trans rfl; have hcz31_2 : w30.cell? ⟨gb184, 2, none⟩ = some (.int .i64 t174) := (blk_cell BK184.out 2).trans rfl; have hcz31_3 : w30.cell? ⟨gb184, 3, none⟩ = some (.int .i64 t175) := (blk_cell BK184.out 3).trans rfl; have hcz31_4 : w30.cell? ⟨gb184, 4, none⟩ = some (.int .i64 t176) := (blk_cell BK184.out 4).trans rfl; have hcz31_5 : w30.cell? ⟨gb184, 5, none⟩ = some (.int .i64 t177) := (blk_cell BK184.out 5).trans rfl; have hcz31_6 : w30.cell? ⟨gb184, 6, none⟩ = some (.int .i64 t178) := (blk_cell BK184.out 6).trans rfl; have hcz31_7 : w30.cell? ⟨gb184, 7, none⟩ = some (.int .i64 t179) := (blk_cell BK184.out 7).trans rfl; have hcz31_8 : w30.cell? ⟨gb184, 8, none⟩ = some (.int .i64 t180) := (blk_cell BK184.out 8).trans rfl; have hcz31_9 : w30.cell? ⟨gb184, 9, none⟩ = some (.int .i64 t181) := (blk_cell BK184.out 9).trans rfl; have hcz31_10 : w30.cell? ⟨gb184, 10, none⟩ = some (.int .i64 t182) := (blk_cell BK184.out 10).trans rfl; have hfz31_0 := blk_frozen BK184.out 0; have hfz31_1 := blk_frozen BK184.out 1; have hfz31_2 := blk_frozen BK184.out 2; have hfz31_3 := blk_frozen BK184.out 3; have hfz31_4 := blk_frozen BK184.out 4; have hfz31_5 := blk_frozen BK184.out 5; have hfz31_6 := blk_frozen BK184.out 6; have hfz31_7 := blk_frozen BK184.out 7; have hfz31_8 := blk_frozen BK184.out 8; have hfz31_9 := blk_frozen BK184.out 9; have hfz31_10 := blk_frozen BK184.out 10) | (go_at_call 10; (with_reducible refine (ferrulelaw16_sample.calls  t212 t213 t214 t215 t216 t217 t218 _ A16.out).mono ?_); rintro e w32 ⟨rfl, hb⟩; have n0_ := Aside0.mk (blk_below (g := gb184) (o := .cells #[.int .i64 t172, .int .i64 t173, .int .i64 t174, .int .i64 t175, .int .i64 t176, .int .i64 t177, .int .i64 t178, .int .i64 t179, .int .i64 t180, .int .i64 t181, .int .i64 t182] 24 (0, 0)) (by (with_reducible repeat (first | refine blk_drewN ?_ _ | refine blk_drew ?_ | refine blk_alloc ?_ _)); exact BK184.out) hb); have n1_ := Aside0.mk (below_step (by repeat (first | (with_reducible first | exact HB.out | apply below_alloc | apply pw_below_drewN | apply below_drew1 | refine below_set ?_ GE184.out) | exact HB.out)) hb); clear BK184; clear HB; have BK184 := n0_; have HB := n1_; clear n0_ n1_; (try clear hb); (try clear hb2); (try clear hk); (try clear hi)) | (go_at_call 12; (with_reducible refine (size_Good.calls k t212 t213 t214 t215 t216 t217 t218 true _ A17.out).mono ?_); rintro e w33 ⟨rfl, hb⟩; have n0_ := Aside0.mk (blk_below (g := gb184) (o := .cells #[.int .i64 t172, .int .i64 t173, .int .i64 t174, .int .i64 t175, .int .i64 t176, .int .i64 t177, .int .i64 t178, .int .i64 t179, .int .i64 t180, .int .i64 t181, .int .i64 t182] 24 (0, 0)) (by (with_reducible repeat (first | refine blk_drewN ?_ _ | refine blk_drew ?_ | refine blk_alloc ?_ _)); exact BK184.out) hb); have n1_ := Aside0.mk (below_step (by repeat (first | (with_reducible first | exact HB.out | apply below_alloc | apply pw_below_drewN | apply below_drew1 | refine below_set ?_ GE184.out) | exact HB.out)) hb); clear BK184; clear HB; have BK184 := n0_; have HB := n1_; clear n0_ n1_; (try clear hb); (try clear hb2); (try clear hk); (try clear hi)))
                      go_ret
                      exact ⟨by first | rfl | (simp [errW_none, errW_some] <;> rfl) | (simp [*, errW_none, errW_some] <;> rfl), by repeat (first | (with_reducible first | exact HB.out | apply below_alloc | apply pw_below_drewN | apply below_drew1 | refine below_set ?_ GE184.out) | exact HB.out)⟩
                    · rw [if_neg c20] at H
                      exact absurd ((Option.some.inj H).trans Hr) (by decide)
                  · rw [if_neg c19] at H
                    exact absurd ((Option.some.inj H).trans Hr) (by decide)
                · replace c18 := Bool.eq_false_iff.mpr c18
                  subst c18
                  have H1 : (some false) = some r := by rw [if_neg (show ¬ (false = true) by decide)] at H; exact H
                  exact absurd ((Option.some.inj H1).trans Hr) (by decide)
              · rw [if_neg c15] at H
                exact absurd ((Option.some.inj H).trans Hr) (by decide)
            · rw [if_neg c14] at H
              exact absurd ((Option.some.inj H).trans Hr) (by decide)
          · rw [if_neg c13] at H
            exact absurd ((Option.some.inj H).trans Hr) (by decide)
        · rw [if_neg c12] at H
          exact absurd ((Option.some.inj H).trans Hr) (by decide)
      · rw [if_neg c11] at H
        exact absurd ((Option.some.inj H).trans Hr) (by decide)
    · rw [if_neg c10] at H
      exact absurd ((Option.some.inj H).trans Hr) (by decide)
  · rw [if_neg c9] at H
    exact absurd ((Option.some.inj H).trans Hr) (by decide)

/-! ### ferruleref16_Span: function 13 -/
def ferruleref16_Span.f (a0_0 : Int) (a0_1 : Int) (a0_2 : Int) (a0_3 : Int) (a0_4 : Int) (a0_5 : Int) (a0_6 : Bool) : Option (Bool) := if a0_0 < 8 then (some false) else (if a0_0 > 64 then (some false) else (if a0_1 < 4 then (some false) else (if a0_1 > 32 then (some false) else (if a0_3 < 0 then (some false) else (if a0_3 > 4 then (some false) else (if a0_2 < 1 then (some false) else (if a0_2 > 512 then (some false) else (if a0_5 ≥ 1 then (if a0_5 ≤ a0_1 then (if a0_5 ≤ a0_2 then (if a0_4 ≥ 1 then (some (decide (a0_4 ≤ 512))) else (some false)) else (some false)) else (some false)) else (some false)))))))))
set_option maxHeartbeats 8000000 in
set_option maxRecDepth 100000 in
theorem ferruleref16_Span.calls (a0_0 : Int) (a0_1 : Int) (a0_2 : Int) (a0_3 : Int) (a0_4 : Int) (a0_5 : Int) (a0_6 : Bool) (r : Bool) (w : World) (h : ferruleref16_Span.f a0_0 a0_1 a0_2 a0_3 a0_4 a0_5 a0_6 = some r) :
    Calls Try.prog 13 #[.agg #[.int .i64 a0_0, .int .i64 a0_1, .int .i64 a0_2, .int .i64 a0_3, .int .i64 a0_4, .int .i64 a0_5, .bool a0_6]] w fun e w' => e = .returned (.bool r) ∧ Below w.heap.size w w' := by
  have hu29 := Try.underlying29
  have HB := Aside0.mk (Below.refl w.heap.size w)
  have H : (if a0_0 < 8 then (some false) else (if a0_0 > 64 then (some false) else (if a0_1 < 4 then (some false) else (if a0_1 > 32 then (some false) else (if a0_3 < 0 then (some false) else (if a0_3 > 4 then (some false) else (if a0_2 < 1 then (some false) else (if a0_2 > 512 then (some false) else (if a0_5 ≥ 1 then (if a0_5 ≤ a0_1 then (if a0_5 ≤ a0_2 then (if a0_4 ≥ 1 then (some (decide (a0_4 ≤ 512))) else (some false)) else (some false)) else (some false)) else (some false)))))))))) = some r := h
  clear h
  by_cases c2 : a0_0 < 8
  · rw [if_pos c2] at H
    have c2b0 : decide (a0_0 < 8) = true := decide_eq_true c2
    clear c2
    obtain rfl := Option.some.inj H
    go_enter Try.func13, Try.ntmps13
    go_wp2_with (first | ((with_reducible refine gate_dst (N := 1) rfl ?_); refine box_event ?hg (N := 1) ?hd (cs := #[.int .i64 a0_0, .int .i64 a0_1, .int .i64 a0_2, .int .i64 a0_3, .int .i64 a0_4, .int .i64 a0_5, .bool a0_6]) (t := 29) ?hr ?_; (case hd => rfl); (case hg => rfl); (case hr => first | (go_simp; done) | (go_simp; rfl)); intro gb220 hg w3 hbox hb; have n0_ := Aside0.mk (below_step (by repeat (first | (with_reducible first | exact HB.out | apply below_alloc | apply pw_below_drewN | apply below_drew1) | exact HB.out)) hb); have n1_ := Aside0.mk (hbox); have n2_ := Aside0.mk ((by rw [hg]; exact (below_size (by repeat (first | (with_reducible first | exact HB.out | apply below_alloc | apply pw_below_drewN | apply below_drew1) | exact HB.out))) : w.heap.size ≤ gb220)); have n3_ := Aside0.mk ((by rw [hg]; exact (below_size (by repeat (first | (with_reducible first | exact HB.out | apply below_alloc | apply pw_below_drewN | apply below_drew1) | exact HB.out))) : w.heap.size ≤ gb220)); clear HB; have HB := n0_; have BK220 := n1_; have GW220 := n2_; have GE220 := n3_; clear n0_ n1_ n2_ n3_; clear hb hbox hg; have hcz4_0 : w3.cell? ⟨gb220, 0, none⟩ = some (.int .i64 a0_0) := (blk_cell BK220.out 0).trans rfl; have hcz4_1 : w3.cell? ⟨gb220, 1, none⟩ = some (.int .i64 a0_1) := (blk_cell BK220.out 1).trans rfl; have hcz4_2 : w3.cell? ⟨gb220, 2, none⟩ = some (.int .i64 a0_2) := (blk_cell BK220.out 2).trans rfl; have hcz4_3 : w3.cell? ⟨gb220, 3, none⟩ = some (.int .i64 a0_3) := (blk_cell BK220.out 3).trans rfl; have hcz4_4 : w3.cell? ⟨gb220, 4, none⟩ = some (.int .i64 a0_4) := (blk_cell BK220.out 4).trans rfl; have hcz4_5 : w3.cell? ⟨gb220, 5, none⟩ = some (.int .i64 a0_5) := (blk_cell BK220.out 5).trans rfl; have hcz4_6 : w3.cell? ⟨gb220, 6, none⟩ = some (.bool a0_6) := (blk_cell BK220.out 6).trans rfl; have hfz4_0 := blk_frozen BK220.out 0; have hfz4_1 := blk_frozen BK220.out 1; have hfz4_2 := blk_frozen BK220.out 2; have hfz4_3 := blk_frozen BK220.out 3; have hfz4_4 := blk_frozen BK220.out 4; have hfz4_5 := blk_frozen BK220.out 5; have hfz4_6 := blk_frozen BK220.out 6))
    go_ret
    exact ⟨by first | rfl | (simp [errW_none, errW_some] <;> rfl) | (simp [*, errW_none, errW_some] <;> rfl), by repeat (first | (with_reducible first | exact HB.out | apply below_alloc | apply pw_below_drewN | apply below_drew1 | refine below_set ?_ GE220.out) | exact HB.out)⟩
  · rw [if_neg c2] at H
    have c2b0 : decide (a0_0 < 8) = false := decide_eq_false c2
    clear c2
    by_cases c5 : a0_0 > 64
    · rw [if_pos c5] at H
      have c5b0 : decide (64 < a0_0) = true := decide_eq_true c5
      clear c5
      obtain rfl := Option.some.inj H
      go_enter Try.func13, Try.ntmps13
      go_wp2_with (first | ((with_reducible refine gate_dst (N := 1) rfl ?_); refine box_event ?hg (N := 1) ?hd (cs := #[.int .i64 a0_0, .int .i64 a0_1, .int .i64 a0_2, .int .i64 a0_3, .int .i64 a0_4, .int .i64 a0_5, .bool a0_6]) (t := 29) ?hr ?_; (case hd => rfl); (case hg => rfl); (case hr => first | (go_simp; done) | (go_simp; rfl)); intro gb220 hg w6 hbox hb; have n0_ := Aside0.mk (below_step (by repeat (first | (with_reducible first | exact HB.out | apply below_alloc | apply pw_below_drewN | apply below_drew1) | exact HB.out)) hb); have n1_ := Aside0.mk (hbox); have n2_ := Aside0.mk ((by rw [hg]; exact (below_size (by repeat (first | (with_reducible first | exact HB.out | apply below_alloc | apply pw_below_drewN | apply below_drew1) | exact HB.out))) : w.heap.size ≤ gb220)); have n3_ := Aside0.mk ((by rw [hg]; exact (below_size (by repeat (first | (with_reducible first | exact HB.out | apply below_alloc | apply pw_below_drewN | apply below_drew1) | exact HB.out))) : w.heap.size ≤ gb220)); clear HB; have HB := n0_; have BK220 := n1_; have GW220 := n2_; have GE220 := n3_; clear n0_ n1_ n2_ n3_; clear hb hbox hg; have hcz7_0 : w6.cell? ⟨gb220, 0, none⟩ = some (.int .i64 a0_0) := (blk_cell BK220.out 0).trans rfl; have hcz7_1 : w6.cell? ⟨gb220, 1, none⟩ = some (.int .i64 a0_1) := (blk_cell BK220.out 1).trans rfl; have hcz7_2 : w6.cell? ⟨gb220, 2, none⟩ = some (.int .i64 a0_2) := (blk_cell BK220.out 2).trans rfl; have hcz7_3 : w6.cell? ⟨gb220, 3, none⟩ = some (.int .i64 a0_3) := (blk_cell BK220.out 3).trans rfl; have hcz7_4 : w6.cell? ⟨gb220, 4, none⟩ = some (.int .i64 a0_4) := (blk_cell BK220.out 4).trans rfl; have hcz7_5 : w6.cell? ⟨gb220, 5, none⟩ = some (.int .i64 a0_5) := (blk_cell BK220.out 5).trans rfl; have hcz7_6 : w6.cell? ⟨gb220, 6, none⟩ = some (.bool a0_6) := (blk_cell BK220.out 6).trans rfl; have hfz7_0 := blk_frozen BK220.out 0; have hfz7_1 := blk_frozen BK220.out 1; have hfz7_2 := blk_frozen BK220.out 2; have hfz7_3 := blk_frozen BK220.out 3; have hfz7_4 := blk_frozen BK220.out 4; have hfz7_5 := blk_frozen BK220.out 5; have hfz7_6 := blk_frozen BK220.out 6))
      go_ret
      exact ⟨by first | rfl | (simp [errW_none, errW_some] <;> rfl) | (simp [*, errW_none, errW_some] <;> rfl), by repeat (first | (with_reducible first | exact HB.out | apply below_alloc | apply pw_below_drewN | apply below_drew1 | refine below_set ?_ GE220.out) | exact HB.out)⟩
    · rw [if_neg c5] at H
      have c5b0 : decide (64 < a0_0) = false := decide_eq_false c5
      clear c5
      by_cases c8 : a0_1 < 4
      · rw [if_pos c8] at H
        have c8b0 : decide (a0_1 < 4) = true := decide_eq_true c8
        clear c8
        obtain rfl := Option.some.inj H
        go_enter Try.func13, Try.ntmps13
        go_wp2_with (first | ((with_reducible refine gate_dst (N := 1) rfl ?_); refine box_event ?hg (N := 1) ?hd (cs := #[.int .i64 a0_0, .int .i64 a0_1, .int .i64 a0_2, .int .i64 a0_3, .int .i64 a0_4, .int .i64 a0_5, .bool a0_6]) (t := 29) ?hr ?_; (case hd => rfl); (case hg => rfl); (case hr => first | (go_simp; done) | (go_simp; rfl)); intro gb220 hg w9 hbox hb; have n0_ := Aside0.mk (below_step (by repeat (first | (with_reducible first | exact HB.out | apply below_alloc | apply pw_below_drewN | apply below_drew1) | exact HB.out)) hb); have n1_ := Aside0.mk (hbox); have n2_ := Aside0.mk ((by rw [hg]; exact (below_size (by repeat (first | (with_reducible first | exact HB.out | apply below_alloc | apply pw_below_drewN | apply below_drew1) | exact HB.out))) : w.heap.size ≤ gb220)); have n3_ := Aside0.mk ((by rw [hg]; exact (below_size (by repeat (first | (with_reducible first | exact HB.out | apply below_alloc | apply pw_below_drewN | apply below_drew1) | exact HB.out))) : w.heap.size ≤ gb220)); clear HB; have HB := n0_; have BK220 := n1_; have GW220 := n2_; have GE220 := n3_; clear n0_ n1_ n2_ n3_; clear hb hbox hg; have hcz10_0 : w9.cell? ⟨gb220, 0, none⟩ = some (.int .i64 a0_0) := (blk_cell BK220.out 0).trans rfl; have hcz10_1 : w9.cell? ⟨gb220, 1, none⟩ = some (.int .i64 a0_1) := (blk_cell BK220.out 1).trans rfl; have hcz10_2 : w9.cell? ⟨gb220, 2, none⟩ = some (.int .i64 a0_2) := (blk_cell BK220.out 2).trans rfl; have hcz10_3 : w9.cell? ⟨gb220, 3, none⟩ = some (.int .i64 a0_3) := (blk_cell BK220.out 3).trans rfl; have hcz10_4 : w9.cell? ⟨gb220, 4, none⟩ = some (.int .i64 a0_4) := (blk_cell BK220.out 4).trans rfl; have hcz10_5 : w9.cell? ⟨gb220, 5, none⟩ = some (.int .i64 a0_5) := (blk_cell BK220.out 5).trans rfl; have hcz10_6 : w9.cell? ⟨gb220, 6, none⟩ = some (.bool a0_6) := (blk_cell BK220.out 6).trans rfl; have hfz10_0 := blk_frozen BK220.out 0; have hfz10_1 := blk_frozen BK220.out 1; have hfz10_2 := blk_frozen BK220.out 2; have hfz10_3 := blk_frozen BK220.out 3; have hfz10_4 := blk_frozen BK220.out 4; have hfz10_5 := blk_frozen BK220.out 5; have hfz10_6 := blk_frozen BK220.out 6))
        go_ret
        exact ⟨by first | rfl | (simp [errW_none, errW_some] <;> rfl) | (simp [*, errW_none, errW_some] <;> rfl), by repeat (first | (with_reducible first | exact HB.out | apply below_alloc | apply pw_below_drewN | apply below_drew1 | refine below_set ?_ GE220.out) | exact HB.out)⟩
      · rw [if_neg c8] at H
        have c8b0 : decide (a0_1 < 4) = false := decide_eq_false c8
        clear c8
        by_cases c11 : a0_1 > 32
        · rw [if_pos c11] at H
          have c11b0 : decide (32 < a0_1) = true := decide_eq_true c11
          clear c11
          obtain rfl := Option.some.inj H
          go_enter Try.func13, Try.ntmps13
          go_wp2_with (first | ((with_reducible refine gate_dst (N := 1) rfl ?_); refine box_event ?hg (N := 1) ?hd (cs := #[.int .i64 a0_0, .int .i64 a0_1, .int .i64 a0_2, .int .i64 a0_3, .int .i64 a0_4, .int .i64 a0_5, .bool a0_6]) (t := 29) ?hr ?_; (case hd => rfl); (case hg => rfl); (case hr => first | (go_simp; done) | (go_simp; rfl)); intro gb220 hg w12 hbox hb; have n0_ := Aside0.mk (below_step (by repeat (first | (with_reducible first | exact HB.out | apply below_alloc | apply pw_below_drewN | apply below_drew1) | exact HB.out)) hb); have n1_ := Aside0.mk (hbox); have n2_ := Aside0.mk ((by rw [hg]; exact (below_size (by repeat (first | (with_reducible first | exact HB.out | apply below_alloc | apply pw_below_drewN | apply below_drew1) | exact HB.out))) : w.heap.size ≤ gb220)); have n3_ := Aside0.mk ((by rw [hg]; exact (below_size (by repeat (first | (with_reducible first | exact HB.out | apply below_alloc | apply pw_below_drewN | apply below_drew1) | exact HB.out))) : w.heap.size ≤ gb220)); clear HB; have HB := n0_; have BK220 := n1_; have GW220 := n2_; have GE220 := n3_; clear n0_ n1_ n2_ n3_; clear hb hbox hg; have hcz13_0 : w12.cell? ⟨gb220, 0, none⟩ = some (.int .i64 a0_0) := (blk_cell BK220.out 0).trans rfl; have hcz13_1 : w12.cell? ⟨gb220, 1, none⟩ = some (.int .i64 a0_1) := (blk_cell BK220.out 1).trans rfl; have hcz13_2 : w12.cell? ⟨gb220, 2, none⟩ = some (.int .i64 a0_2) := (blk_cell BK220.out 2).trans rfl; have hcz13_3 : w12.cell? ⟨gb220, 3, none⟩ = some (.int .i64 a0_3) := (blk_cell BK220.out 3).trans rfl; have hcz13_4 : w12.cell? ⟨gb220, 4, none⟩ = some (.int .i64 a0_4) := (blk_cell BK220.out 4).trans rfl; have hcz13_5 : w12.cell? ⟨gb220, 5, none⟩ = some (.int .i64 a0_5) := (blk_cell BK220.out 5).trans rfl; have hcz13_6 : w12.cell? ⟨gb220, 6, none⟩ = some (.bool a0_6) := (blk_cell BK220.out 6).trans rfl; have hfz13_0 := blk_frozen BK220.out 0; have hfz13_1 := blk_frozen BK220.out 1; have hfz13_2 := blk_frozen BK220.out 2; have hfz13_3 := blk_frozen BK220.out 3; have hfz13_4 := blk_frozen BK220.out 4; have hfz13_5 := blk_frozen BK220.out 5; have hfz13_6 := blk_frozen BK220.out 6))
          go_ret
          exact ⟨by first | rfl | (simp [errW_none, errW_some] <;> rfl) | (simp [*, errW_none, errW_some] <;> rfl), by repeat (first | (with_reducible first | exact HB.out | apply below_alloc | apply pw_below_drewN | apply below_drew1 | refine below_set ?_ GE220.out) | exact HB.out)⟩
        · rw [if_neg c11] at H
          have c11b0 : decide (32 < a0_1) = false := decide_eq_false c11
          clear c11
          by_cases c14 : a0_3 < 0
          · rw [if_pos c14] at H
            have c14b0 : decide (a0_3 < 0) = true := decide_eq_true c14
            clear c14
            obtain rfl := Option.some.inj H
            go_enter Try.func13, Try.ntmps13
            go_wp2_with (first | ((with_reducible refine gate_dst (N := 1) rfl ?_); refine box_event ?hg (N := 1) ?hd (cs := #[.int .i64 a0_0, .int .i64 a0_1, .int .i64 a0_2, .int .i64 a0_3, .int .i64 a0_4, .int .i64 a0_5, .bool a0_6]) (t := 29) ?hr ?_; (case hd => rfl); (case hg => rfl); (case hr => first | (go_simp; done) | (go_simp; rfl)); intro gb220 hg w15 hbox hb; have n0_ := Aside0.mk (below_step (by repeat (first | (with_reducible first | exact HB.out | apply below_alloc | apply pw_below_drewN | apply below_drew1) | exact HB.out)) hb); have n1_ := Aside0.mk (hbox); have n2_ := Aside0.mk ((by rw [hg]; exact (below_size (by repeat (first | (with_reducible first | exact HB.out | apply below_alloc | apply pw_below_drewN | apply below_drew1) | exact HB.out))) : w.heap.size ≤ gb220)); have n3_ := Aside0.mk ((by rw [hg]; exact (below_size (by repeat (first | (with_reducible first | exact HB.out | apply below_alloc | apply pw_below_drewN | apply below_drew1) | exact HB.out))) : w.heap.size ≤ gb220)); clear HB; have HB := n0_; have BK220 := n1_; have GW220 := n2_; have GE220 := n3_; clear n0_ n1_ n2_ n3_; clear hb hbox hg; have hcz16_0 : w15.cell? ⟨gb220, 0, none⟩ = some (.int .i64 a0_0) := (blk_cell BK220.out 0).trans rfl; have hcz16_1 : w15.cell? ⟨gb220, 1, none⟩ = some (.int .i64 a0_1) := (blk_cell BK220.out 1).trans rfl; have hcz16_2 : w15.cell? ⟨gb220, 2, none⟩ = some (.int .i64 a0_2) := (blk_cell BK220.out 2).trans rfl; have hcz16_3 : w15.cell? ⟨gb220, 3, none⟩ = some (.int .i64 a0_3) := (blk_cell BK220.out 3).trans rfl; have hcz16_4 : w15.cell? ⟨gb220, 4, none⟩ = some (.int .i64 a0_4) := (blk_cell BK220.out 4).trans rfl; have hcz16_5 : w15.cell? ⟨gb220, 5, none⟩ = some (.int .i64 a0_5) := (blk_cell BK220.out 5).trans rfl; have hcz16_6 : w15.cell? ⟨gb220, 6, none⟩ = some (.bool a0_6) := (blk_cell BK220.out 6).trans rfl; have hfz16_0 := blk_frozen BK220.out 0; have hfz16_1 := blk_frozen BK220.out 1; have hfz16_2 := blk_frozen BK220.out 2; have hfz16_3 := blk_frozen BK220.out 3; have hfz16_4 := blk_frozen BK220.out 4; have hfz16_5 := blk_frozen BK220.out 5; have hfz16_6 := blk_frozen BK220.out 6))
            go_ret
            exact ⟨by first | rfl | (simp [errW_none, errW_some] <;> rfl) | (simp [*, errW_none, errW_some] <;> rfl), by repeat (first | (with_reducible first | exact HB.out | apply below_alloc | apply pw_below_drewN | apply below_drew1 | refine below_set ?_ GE220.out) | exact HB.out)⟩
          · rw [if_neg c14] at H
            have c14b0 : decide (a0_3 < 0) = false := decide_eq_false c14
            clear c14
            by_cases c17 : a0_3 > 4
            · rw [if_pos c17] at H
              have c17b0 : decide (4 < a0_3) = true := decide_eq_true c17
              clear c17
              obtain rfl := Option.some.inj H
              go_enter Try.func13, Try.ntmps13
              go_wp2_with (first | ((with_reducible refine gate_dst (N := 1) rfl ?_); refine box_event ?hg (N := 1) ?hd (cs := #[.int .i64 a0_0, .int .i64 a0_1, .int .i64 a0_2, .int .i64 a0_3, .int .i64 a0_4, .int .i64 a0_5, .bool a0_6]) (t := 29) ?hr ?_; (case hd => rfl); (case hg => rfl); (case hr => first | (go_simp; done) | (go_simp; rfl)); intro gb220 hg w18 hbox hb; have n0_ := Aside0.mk (below_step (by repeat (first | (with_reducible first | exact HB.out | apply below_alloc | apply pw_below_drewN | apply below_drew1) | exact HB.out)) hb); have n1_ := Aside0.mk (hbox); have n2_ := Aside0.mk ((by rw [hg]; exact (below_size (by repeat (first | (with_reducible first | exact HB.out | apply below_alloc | apply pw_below_drewN | apply below_drew1) | exact HB.out))) : w.heap.size ≤ gb220)); have n3_ := Aside0.mk ((by rw [hg]; exact (below_size (by repeat (first | (with_reducible first | exact HB.out | apply below_alloc | apply pw_below_drewN | apply below_drew1) | exact HB.out))) : w.heap.size ≤ gb220)); clear HB; have HB := n0_; have BK220 := n1_; have GW220 := n2_; have GE220 := n3_; clear n0_ n1_ n2_ n3_; clear hb hbox hg; have hcz19_0 : w18.cell? ⟨gb220, 0, none⟩ = some (.int .i64 a0_0) := (blk_cell BK220.out 0).trans rfl; have hcz19_1 : w18.cell? ⟨gb220, 1, none⟩ = some (.int .i64 a0_1) := (blk_cell BK220.out 1).trans rfl; have hcz19_2 : w18.cell? ⟨gb220, 2, none⟩ = some (.int .i64 a0_2) := (blk_cell BK220.out 2).trans rfl; have hcz19_3 : w18.cell? ⟨gb220, 3, none⟩ = some (.int .i64 a0_3) := (blk_cell BK220.out 3).trans rfl; have hcz19_4 : w18.cell? ⟨gb220, 4, none⟩ = some (.int .i64 a0_4) := (blk_cell BK220.out 4).trans rfl; have hcz19_5 : w18.cell? ⟨gb220, 5, none⟩ = some (.int .i64 a0_5) := (blk_cell BK220.out 5).trans rfl; have hcz19_6 : w18.cell? ⟨gb220, 6, none⟩ = some (.bool a0_6) := (blk_cell BK220.out 6).trans rfl; have hfz19_0 := blk_frozen BK220.out 0; have hfz19_1 := blk_frozen BK220.out 1; have hfz19_2 := blk_frozen BK220.out 2; have hfz19_3 := blk_frozen BK220.out 3; have hfz19_4 := blk_frozen BK220.out 4; have hfz19_5 := blk_frozen BK220.out 5; have hfz19_6 := blk_frozen BK220.out 6))
              go_ret
              exact ⟨by first | rfl | (simp [errW_none, errW_some] <;> rfl) | (simp [*, errW_none, errW_some] <;> rfl), by repeat (first | (with_reducible first | exact HB.out | apply below_alloc | apply pw_below_drewN | apply below_drew1 | refine below_set ?_ GE220.out) | exact HB.out)⟩
            · rw [if_neg c17] at H
              have c17b0 : decide (4 < a0_3) = false := decide_eq_false c17
              clear c17
              by_cases c20 : a0_2 < 1
              · rw [if_pos c20] at H
                have c20b0 : decide (a0_2 < 1) = true := decide_eq_true c20
                clear c20
                obtain rfl := Option.some.inj H
                go_enter Try.func13, Try.ntmps13
                go_wp2_with (first | ((with_reducible refine gate_dst (N := 1) rfl ?_); refine box_event ?hg (N := 1) ?hd (cs := #[.int .i64 a0_0, .int .i64 a0_1, .int .i64 a0_2, .int .i64 a0_3, .int .i64 a0_4, .int .i64 a0_5, .bool a0_6]) (t := 29) ?hr ?_; (case hd => rfl); (case hg => rfl); (case hr => first | (go_simp; done) | (go_simp; rfl)); intro gb220 hg w21 hbox hb; have n0_ := Aside0.mk (below_step (by repeat (first | (with_reducible first | exact HB.out | apply below_alloc | apply pw_below_drewN | apply below_drew1) | exact HB.out)) hb); have n1_ := Aside0.mk (hbox); have n2_ := Aside0.mk ((by rw [hg]; exact (below_size (by repeat (first | (with_reducible first | exact HB.out | apply below_alloc | apply pw_below_drewN | apply below_drew1) | exact HB.out))) : w.heap.size ≤ gb220)); have n3_ := Aside0.mk ((by rw [hg]; exact (below_size (by repeat (first | (with_reducible first | exact HB.out | apply below_alloc | apply pw_below_drewN | apply below_drew1) | exact HB.out))) : w.heap.size ≤ gb220)); clear HB; have HB := n0_; have BK220 := n1_; have GW220 := n2_; have GE220 := n3_; clear n0_ n1_ n2_ n3_; clear hb hbox hg; have hcz22_0 : w21.cell? ⟨gb220, 0, none⟩ = some (.int .i64 a0_0) := (blk_cell BK220.out 0).trans rfl; have hcz22_1 : w21.cell? ⟨gb220, 1, none⟩ = some (.int .i64 a0_1) := (blk_cell BK220.out 1).trans rfl; have hcz22_2 : w21.cell? ⟨gb220, 2, none⟩ = some (.int .i64 a0_2) := (blk_cell BK220.out 2).trans rfl; have hcz22_3 : w21.cell? ⟨gb220, 3, none⟩ = some (.int .i64 a0_3) := (blk_cell BK220.out 3).trans rfl; have hcz22_4 : w21.cell? ⟨gb220, 4, none⟩ = some (.int .i64 a0_4) := (blk_cell BK220.out 4).trans rfl; have hcz22_5 : w21.cell? ⟨gb220, 5, none⟩ = some (.int .i64 a0_5) := (blk_cell BK220.out 5).trans rfl; have hcz22_6 : w21.cell? ⟨gb220, 6, none⟩ = some (.bool a0_6) := (blk_cell BK220.out 6).trans rfl; have hfz22_0 := blk_frozen BK220.out 0; have hfz22_1 := blk_frozen BK220.out 1; have hfz22_2 := blk_frozen BK220.out 2; have hfz22_3 := blk_frozen BK220.out 3; have hfz22_4 := blk_frozen BK220.out 4; have hfz22_5 := blk_frozen BK220.out 5; have hfz22_6 := blk_frozen BK220.out 6))
                go_ret
                exact ⟨by first | rfl | (simp [errW_none, errW_some] <;> rfl) | (simp [*, errW_none, errW_some] <;> rfl), by repeat (first | (with_reducible first | exact HB.out | apply below_alloc | apply pw_below_drewN | apply below_drew1 | refine below_set ?_ GE220.out) | exact HB.out)⟩
              · rw [if_neg c20] at H
                have c20b0 : decide (a0_2 < 1) = false := decide_eq_false c20
                clear c20
                by_cases c23 : a0_2 > 512
                · rw [if_pos c23] at H
                  have c23b0 : decide (512 < a0_2) = true := decide_eq_true c23
                  clear c23
                  obtain rfl := Option.some.inj H
                  go_enter Try.func13, Try.ntmps13
                  go_wp2_with (first | ((with_reducible refine gate_dst (N := 1) rfl ?_); refine box_event ?hg (N := 1) ?hd (cs := #[.int .i64 a0_0, .int .i64 a0_1, .int .i64 a0_2, .int .i64 a0_3, .int .i64 a0_4, .int .i64 a0_5, .bool a0_6]) (t := 29) ?hr ?_; (case hd => rfl); (case hg => rfl); (case hr => first | (go_simp; done) | (go_simp; rfl)); intro gb220 hg w24 hbox hb; have n0_ := Aside0.mk (below_step (by repeat (first | (with_reducible first | exact HB.out | apply below_alloc | apply pw_below_drewN | apply below_drew1) | exact HB.out)) hb); have n1_ := Aside0.mk (hbox); have n2_ := Aside0.mk ((by rw [hg]; exact (below_size (by repeat (first | (with_reducible first | exact HB.out | apply below_alloc | apply pw_below_drewN | apply below_drew1) | exact HB.out))) : w.heap.size ≤ gb220)); have n3_ := Aside0.mk ((by rw [hg]; exact (below_size (by repeat (first | (with_reducible first | exact HB.out | apply below_alloc | apply pw_below_drewN | apply below_drew1) | exact HB.out))) : w.heap.size ≤ gb220)); clear HB; have HB := n0_; have BK220 := n1_; have GW220 := n2_; have GE220 := n3_; clear n0_ n1_ n2_ n3_; clear hb hbox hg; have hcz25_0 : w24.cell? ⟨gb220, 0, none⟩ = some (.int .i64 a0_0) := (blk_cell BK220.out 0).trans rfl; have hcz25_1 : w24.cell? ⟨gb220, 1, none⟩ = some (.int .i64 a0_1) := (blk_cell BK220.out 1).trans rfl; have hcz25_2 : w24.cell? ⟨gb220, 2, none⟩ = some (.int .i64 a0_2) := (blk_cell BK220.out 2).trans rfl; have hcz25_3 : w24.cell? ⟨gb220, 3, none⟩ = some (.int .i64 a0_3) := (blk_cell BK220.out 3).trans rfl; have hcz25_4 : w24.cell? ⟨gb220, 4, none⟩ = some (.int .i64 a0_4) := (blk_cell BK220.out 4).trans rfl; have hcz25_5 : w24.cell? ⟨gb220, 5, none⟩ = some (.int .i64 a0_5) := (blk_cell BK220.out 5).trans rfl; have hcz25_6 : w24.cell? ⟨gb220, 6, none⟩ = some (.bool a0_6) := (blk_cell BK220.out 6).trans rfl; have hfz25_0 := blk_frozen BK220.out 0; have hfz25_1 := blk_frozen BK220.out 1; have hfz25_2 := blk_frozen BK220.out 2; have hfz25_3 := blk_frozen BK220.out 3; have hfz25_4 := blk_frozen BK220.out 4; have hfz25_5 := blk_frozen BK220.out 5; have hfz25_6 := blk_frozen BK220.out 6))
                  go_ret
                  exact ⟨by first | rfl | (simp [errW_none, errW_some] <;> rfl) | (simp [*, errW_none, errW_some] <;> rfl), by repeat (first | (with_reducible first | exact HB.out | apply below_alloc | apply pw_below_drewN | apply below_drew1 | refine below_set ?_ GE220.out) | exact HB.out)⟩
                · rw [if_neg c23] at H
                  have c23b0 : decide (512 < a0_2) = false := decide_eq_false c23
                  clear c23
                  by_cases c26 : a0_5 ≥ 1
                  · rw [if_pos c26] at H
                    have c26b0 : decide (1 ≤ a0_5) = true := decide_eq_true c26
                    clear c26
                    by_cases c27 : a0_5 ≤ a0_1
                    · rw [if_pos c27] at H
                      have c27b0 : decide (a0_5 ≤ a0_1) = true := decide_eq_true c27
                      clear c27
                      by_cases c28 : a0_5 ≤ a0_2
                      · rw [if_pos c28] at H
                        have c28b0 : decide (a0_5 ≤ a0_2) = true := decide_eq_true c28
                        clear c28
                        by_cases c29 : a0_4 ≥ 1
                        · rw [if_pos c29] at H
                          have c29b0 : decide (1 ≤ a0_4) = true := decide_eq_true c29
                          clear c29
                          obtain rfl := Option.some.inj H
                          go_enter Try.func13, Try.ntmps13
                          go_wp2_with (first | ((with_reducible refine gate_dst (N := 1) rfl ?_); refine box_event ?hg (N := 1) ?hd (cs := #[.int .i64 a0_0, .int .i64 a0_1, .int .i64 a0_2, .int .i64 a0_3, .int .i64 a0_4, .int .i64 a0_5, .bool a0_6]) (t := 29) ?hr ?_; (case hd => rfl); (case hg => rfl); (case hr => first | (go_simp; done) | (go_simp; rfl)); intro gb220 hg w30 hbox hb; have n0_ := Aside0.mk (below_step (by repeat (first | (with_reducible first | exact HB.out | apply below_alloc | apply pw_below_drewN | apply below_drew1) | exact HB.out)) hb); have n1_ := Aside0.mk (hbox); have n2_ := Aside0.mk ((by rw [hg]; exact (below_size (by repeat (first | (with_reducible first | exact HB.out | apply below_alloc | apply pw_below_drewN | apply below_drew1) | exact HB.out))) : w.heap.size ≤ gb220)); have n3_ := Aside0.mk ((by rw [hg]; exact (below_size (by repeat (first | (with_reducible first | exact HB.out | apply below_alloc | apply pw_below_drewN | apply below_drew1) | exact HB.out))) : w.heap.size ≤ gb220)); clear HB; have HB := n0_; have BK220 := n1_; have GW220 := n2_; have GE220 := n3_; clear n0_ n1_ n2_ n3_; clear hb hbox hg; have hcz31_0 : w30.cell? ⟨gb220, 0, none⟩ = some (.int .i64 a0_0) := (blk_cell BK220.out 0).trans rfl; have hcz31_1 : w30.cell? ⟨gb220, 1, none⟩ = some (.int .i64 a0_1) := (blk_cell BK220.out 1).trans rfl; have hcz31_2 : w30.cell? ⟨gb220, 2, none⟩ = some (.int .i64 a0_2) := (blk_cell BK220.out 2).trans rfl; have hcz31_3 : w30.cell? ⟨gb220, 3, none⟩ = some (.int .i64 a0_3) := (blk_cell BK220.out 3).trans rfl; have hcz31_4 : w30.cell? ⟨gb220, 4, none⟩ = some (.int .i64 a0_4) := (blk_cell BK220.out 4).trans rfl; have hcz31_5 : w30.cell? ⟨gb220, 5, none⟩ = some (.int .i64 a0_5) := (blk_cell BK220.out 5).trans rfl; have hcz31_6 : w30.cell? ⟨gb220, 6, none⟩ = some (.bool a0_6) := (blk_cell BK220.out 6).trans rfl; have hfz31_0 := blk_frozen BK220.out 0; have hfz31_1 := blk_frozen BK220.out 1; have hfz31_2 := blk_frozen BK220.out 2; have hfz31_3 := blk_frozen BK220.out 3; have hfz31_4 := blk_frozen BK220.out 4; have hfz31_5 := blk_frozen BK220.out 5; have hfz31_6 := blk_frozen BK220.out 6))
                          go_ret
                          exact ⟨by first | rfl | (simp [errW_none, errW_some] <;> rfl) | (simp [*, errW_none, errW_some] <;> rfl), by repeat (first | (with_reducible first | exact HB.out | apply below_alloc | apply pw_below_drewN | apply below_drew1 | refine below_set ?_ GE220.out) | exact HB.out)⟩
                        · rw [if_neg c29] at H
                          have c29b0 : decide (1 ≤ a0_4) = false := decide_eq_false c29
                          clear c29
                          obtain rfl := Option.some.inj H
                          go_enter Try.func13, Try.ntmps13
                          go_wp2_with (first | ((with_reducible refine gate_dst (N := 1) rfl ?_); refine box_event ?hg (N := 1) ?hd (cs := #[.int .i64 a0_0, .int .i64 a0_1, .int .i64 a0_2, .int .i64 a0_3, .int .i64 a0_4, .int .i64 a0_5, .bool a0_6]) (t := 29) ?hr ?_; (case hd => rfl); (case hg => rfl); (case hr => first | (go_simp; done) | (go_simp; rfl)); intro gb220 hg w32 hbox hb; have n0_ := Aside0.mk (below_step (by repeat (first | (with_reducible first | exact HB.out | apply below_alloc | apply pw_below_drewN | apply below_drew1) | exact HB.out)) hb); have n1_ := Aside0.mk (hbox); have n2_ := Aside0.mk ((by rw [hg]; exact (below_size (by repeat (first | (with_reducible first | exact HB.out | apply below_alloc | apply pw_below_drewN | apply below_drew1) | exact HB.out))) : w.heap.size ≤ gb220)); have n3_ := Aside0.mk ((by rw [hg]; exact (below_size (by repeat (first | (with_reducible first | exact HB.out | apply below_alloc | apply pw_below_drewN | apply below_drew1) | exact HB.out))) : w.heap.size ≤ gb220)); clear HB; have HB := n0_; have BK220 := n1_; have GW220 := n2_; have GE220 := n3_; clear n0_ n1_ n2_ n3_; clear hb hbox hg; have hcz33_0 : w32.cell? ⟨gb220, 0, none⟩ = some (.int .i64 a0_0) := (blk_cell BK220.out 0).trans rfl; have hcz33_1 : w32.cell? ⟨gb220, 1, none⟩ = some (.int .i64 a0_1) := (blk_cell BK220.out 1).trans rfl; have hcz33_2 : w32.cell? ⟨gb220, 2, none⟩ = some (.int .i64 a0_2) := (blk_cell BK220.out 2).trans rfl; have hcz33_3 : w32.cell? ⟨gb220, 3, none⟩ = some (.int .i64 a0_3) := (blk_cell BK220.out 3).trans rfl; have hcz33_4 : w32.cell? ⟨gb220, 4, none⟩ = some (.int .i64 a0_4) := (blk_cell BK220.out 4).trans rfl; have hcz33_5 : w32.cell? ⟨gb220, 5, none⟩ = some (.int .i64 a0_5) := (blk_cell BK220.out 5).trans rfl; have hcz33_6 : w32.cell? ⟨gb220, 6, none⟩ = some (.bool a0_6) := (blk_cell BK220.out 6).trans rfl; have hfz33_0 := blk_frozen BK220.out 0; have hfz33_1 := blk_frozen BK220.out 1; have hfz33_2 := blk_frozen BK220.out 2; have hfz33_3 := blk_frozen BK220.out 3; have hfz33_4 := blk_frozen BK220.out 4; have hfz33_5 := blk_frozen BK220.out 5; have hfz33_6 := blk_frozen BK220.out 6))
                          go_ret
                          exact ⟨by first | rfl | (simp [errW_none, errW_some] <;> rfl) | (simp [*, errW_none, errW_some] <;> rfl), by repeat (first | (with_reducible first | exact HB.out | apply below_alloc | apply pw_below_drewN | apply below_drew1 | refine below_set ?_ GE220.out) | exact HB.out)⟩
                      · rw [if_neg c28] at H
                        have c28b0 : decide (a0_5 ≤ a0_2) = false := decide_eq_false c28
                        clear c28
                        obtain rfl := Option.some.inj H
                        go_enter Try.func13, Try.ntmps13
                        go_wp2_with (first | ((with_reducible refine gate_dst (N := 1) rfl ?_); refine box_event ?hg (N := 1) ?hd (cs := #[.int .i64 a0_0, .int .i64 a0_1, .int .i64 a0_2, .int .i64 a0_3, .int .i64 a0_4, .int .i64 a0_5, .bool a0_6]) (t := 29) ?hr ?_; (case hd => rfl); (case hg => rfl); (case hr => first | (go_simp; done) | (go_simp; rfl)); intro gb220 hg w34 hbox hb; have n0_ := Aside0.mk (below_step (by repeat (first | (with_reducible first | exact HB.out | apply below_alloc | apply pw_below_drewN | apply below_drew1) | exact HB.out)) hb); have n1_ := Aside0.mk (hbox); have n2_ := Aside0.mk ((by rw [hg]; exact (below_size (by repeat (first | (with_reducible first | exact HB.out | apply below_alloc | apply pw_below_drewN | apply below_drew1) | exact HB.out))) : w.heap.size ≤ gb220)); have n3_ := Aside0.mk ((by rw [hg]; exact (below_size (by repeat (first | (with_reducible first | exact HB.out | apply below_alloc | apply pw_below_drewN | apply below_drew1) | exact HB.out))) : w.heap.size ≤ gb220)); clear HB; have HB := n0_; have BK220 := n1_; have GW220 := n2_; have GE220 := n3_; clear n0_ n1_ n2_ n3_; clear hb hbox hg; have hcz35_0 : w34.cell? ⟨gb220, 0, none⟩ = some (.int .i64 a0_0) := (blk_cell BK220.out 0).trans rfl; have hcz35_1 : w34.cell? ⟨gb220, 1, none⟩ = some (.int .i64 a0_1) := (blk_cell BK220.out 1).trans rfl; have hcz35_2 : w34.cell? ⟨gb220, 2, none⟩ = some (.int .i64 a0_2) := (blk_cell BK220.out 2).trans rfl; have hcz35_3 : w34.cell? ⟨gb220, 3, none⟩ = some (.int .i64 a0_3) := (blk_cell BK220.out 3).trans rfl; have hcz35_4 : w34.cell? ⟨gb220, 4, none⟩ = some (.int .i64 a0_4) := (blk_cell BK220.out 4).trans rfl; have hcz35_5 : w34.cell? ⟨gb220, 5, none⟩ = some (.int .i64 a0_5) := (blk_cell BK220.out 5).trans rfl; have hcz35_6 : w34.cell? ⟨gb220, 6, none⟩ = some (.bool a0_6) := (blk_cell BK220.out 6).trans rfl; have hfz35_0 := blk_frozen BK220.out 0; have hfz35_1 := blk_frozen BK220.out 1; have hfz35_2 := blk_frozen BK220.out 2; have hfz35_3 := blk_frozen BK220.out 3; have hfz35_4 := blk_frozen BK220.out 4; have hfz35_5 := blk_frozen BK220.out 5; have hfz35_6 := blk_frozen BK220.out 6))
                        go_ret
                        exact ⟨by first | rfl | (simp [errW_none, errW_some] <;> rfl) | (simp [*, errW_none, errW_some] <;> rfl), by repeat (first | (with_reducible first | exact HB.out | apply below_alloc | apply pw_below_drewN | apply below_drew1 | refine below_set ?_ GE220.out) | exact HB.out)⟩
                    · rw [if_neg c27] at H
                      have c27b0 : decide (a0_5 ≤ a0_1) = false := decide_eq_false c27
                      clear c27
                      obtain rfl := Option.some.inj H
                      go_enter Try.func13, Try.ntmps13
                      go_wp2_with (first | ((with_reducible refine gate_dst (N := 1) rfl ?_); refine box_event ?hg (N := 1) ?hd (cs := #[.int .i64 a0_0, .int .i64 a0_1, .int .i64 a0_2, .int .i64 a0_3, .int .i64 a0_4, .int .i64 a0_5, .bool a0_6]) (t := 29) ?hr ?_; (case hd => rfl); (case hg => rfl); (case hr => first | (go_simp; done) | (go_simp; rfl)); intro gb220 hg w36 hbox hb; have n0_ := Aside0.mk (below_step (by repeat (first | (with_reducible first | exact HB.out | apply below_alloc | apply pw_below_drewN | apply below_drew1) | exact HB.out)) hb); have n1_ := Aside0.mk (hbox); have n2_ := Aside0.mk ((by rw [hg]; exact (below_size (by repeat (first | (with_reducible first | exact HB.out | apply below_alloc | apply pw_below_drewN | apply below_drew1) | exact HB.out))) : w.heap.size ≤ gb220)); have n3_ := Aside0.mk ((by rw [hg]; exact (below_size (by repeat (first | (with_reducible first | exact HB.out | apply below_alloc | apply pw_below_drewN | apply below_drew1) | exact HB.out))) : w.heap.size ≤ gb220)); clear HB; have HB := n0_; have BK220 := n1_; have GW220 := n2_; have GE220 := n3_; clear n0_ n1_ n2_ n3_; clear hb hbox hg; have hcz37_0 : w36.cell? ⟨gb220, 0, none⟩ = some (.int .i64 a0_0) := (blk_cell BK220.out 0).trans rfl; have hcz37_1 : w36.cell? ⟨gb220, 1, none⟩ = some (.int .i64 a0_1) := (blk_cell BK220.out 1).trans rfl; have hcz37_2 : w36.cell? ⟨gb220, 2, none⟩ = some (.int .i64 a0_2) := (blk_cell BK220.out 2).trans rfl; have hcz37_3 : w36.cell? ⟨gb220, 3, none⟩ = some (.int .i64 a0_3) := (blk_cell BK220.out 3).trans rfl; have hcz37_4 : w36.cell? ⟨gb220, 4, none⟩ = some (.int .i64 a0_4) := (blk_cell BK220.out 4).trans rfl; have hcz37_5 : w36.cell? ⟨gb220, 5, none⟩ = some (.int .i64 a0_5) := (blk_cell BK220.out 5).trans rfl; have hcz37_6 : w36.cell? ⟨gb220, 6, none⟩ = some (.bool a0_6) := (blk_cell BK220.out 6).trans rfl; have hfz37_0 := blk_frozen BK220.out 0; have hfz37_1 := blk_frozen BK220.out 1; have hfz37_2 := blk_frozen BK220.out 2; have hfz37_3 := blk_frozen BK220.out 3; have hfz37_4 := blk_frozen BK220.out 4; have hfz37_5 := blk_frozen BK220.out 5; have hfz37_6 := blk_frozen BK220.out 6))
                      go_ret
                      exact ⟨by first | rfl | (simp [errW_none, errW_some] <;> rfl) | (simp [*, errW_none, errW_some] <;> rfl), by repeat (first | (with_reducible first | exact HB.out | apply below_alloc | apply pw_below_drewN | apply below_drew1 | refine below_set ?_ GE220.out) | exact HB.out)⟩
                  · rw [if_neg c26] at H
                    have c26b0 : decide (1 ≤ a0_5) = false := decide_eq_false c26
                    clear c26
                    obtain rfl := Option.some.inj H
                    go_enter Try.func13, Try.ntmps13
                    go_wp2_with (first | ((with_reducible refine gate_dst (N := 1) rfl ?_); refine box_event ?hg (N := 1) ?hd (cs := #[.int .i64 a0_0, .int .i64 a0_1, .int .i64 a0_2, .int .i64 a0_3, .int .i64 a0_4, .int .i64 a0_5, .bool a0_6]) (t := 29) ?hr ?_; (case hd => rfl); (case hg => rfl); (case hr => first | (go_simp; done) | (go_simp; rfl)); intro gb220 hg w38 hbox hb; have n0_ := Aside0.mk (below_step (by repeat (first | (with_reducible first | exact HB.out | apply below_alloc | apply pw_below_drewN | apply below_drew1) | exact HB.out)) hb); have n1_ := Aside0.mk (hbox); have n2_ := Aside0.mk ((by rw [hg]; exact (below_size (by repeat (first | (with_reducible first | exact HB.out | apply below_alloc | apply pw_below_drewN | apply below_drew1) | exact HB.out))) : w.heap.size ≤ gb220)); have n3_ := Aside0.mk ((by rw [hg]; exact (below_size (by repeat (first | (with_reducible first | exact HB.out | apply below_alloc | apply pw_below_drewN | apply below_drew1) | exact HB.out))) : w.heap.size ≤ gb220)); clear HB; have HB := n0_; have BK220 := n1_; have GW220 := n2_; have GE220 := n3_; clear n0_ n1_ n2_ n3_; clear hb hbox hg; have hcz39_0 : w38.cell? ⟨gb220, 0, none⟩ = some (.int .i64 a0_0) := (blk_cell BK220.out 0).trans rfl; have hcz39_1 : w38.cell? ⟨gb220, 1, none⟩ = some (.int .i64 a0_1) := (blk_cell BK220.out 1).trans rfl; have hcz39_2 : w38.cell? ⟨gb220, 2, none⟩ = some (.int .i64 a0_2) := (blk_cell BK220.out 2).trans rfl; have hcz39_3 : w38.cell? ⟨gb220, 3, none⟩ = some (.int .i64 a0_3) := (blk_cell BK220.out 3).trans rfl; have hcz39_4 : w38.cell? ⟨gb220, 4, none⟩ = some (.int .i64 a0_4) := (blk_cell BK220.out 4).trans rfl; have hcz39_5 : w38.cell? ⟨gb220, 5, none⟩ = some (.int .i64 a0_5) := (blk_cell BK220.out 5).trans rfl; have hcz39_6 : w38.cell? ⟨gb220, 6, none⟩ = some (.bool a0_6) := (blk_cell BK220.out 6).trans rfl; have hfz39_0 := blk_frozen BK220.out 0; have hfz39_1 := blk_frozen BK220.out 1; have hfz39_2 := blk_frozen BK220.out 2; have hfz39_3 := blk_frozen BK220.out 3; have hfz39_4 := blk_frozen BK220.out 4; have hfz39_5 := blk_frozen BK220.out 5; have hfz39_6 := blk_frozen BK220.out 6))
                    go_ret
                    exact ⟨by first | rfl | (simp [errW_none, errW_some] <;> rfl) | (simp [*, errW_none, errW_some] <;> rfl), by repeat (first | (with_reducible first | exact HB.out | apply below_alloc | apply pw_below_drewN | apply below_drew1 | refine below_set ?_ GE220.out) | exact HB.out)⟩

/-! ### ferruleref4_Put: function 29 -/
def ferruleref4_Put.f : Nat → Int → Option (List Int)
  | 0, _ => none
  | k + 1, a0 => if a0 < 128 then (some (([(a0) % 256] : List Int))) else ((some (([(((Int.tmod a0 128) % 256) + 128) % 256] : List Int) : List Int)).bind fun y224 => ((ferruleref4_Put.f k (IntKind.u64.wrap (Int.tdiv a0 128))).bind fun t227 => (if y224.length + t227.length < 140737488355328 then (some (y224 ++ t227)) else (none))))
theorem ferruleref4_Put.mono_l : ∀ k, (∀ y0, LeO (ferruleref4_Put.f k y0) (ferruleref4_Put.f (k + 1) y0))
  | 0 => fun _ r h => by simp [ferruleref4_Put.f] at h
  | k + 1 => by
    have ih0 := ferruleref4_Put.mono_l k
    · intro y0
      unfold ferruleref4_Put.f
      repeat' first
      | (with_reducible exact ih0 _)
      | (with_reducible exact LeO.refl _)
      | (with_reducible exact LeO.none _)
      | (with_reducible refine LeO.ite ?_ ?_)
      | (with_reducible refine LeO.bind ?_ (fun _ => ?_))
      | exact ih0 _
      | exact LeO.none _
      | refine LeO.ite ?_ ?_
      | refine LeO.bind ?_ (fun _ => ?_)
theorem ferruleref4_Put.mono : ∀ a0 k, LeO (ferruleref4_Put.f k a0) (ferruleref4_Put.f (k + 1) a0) := by
  intro a0 k
  have ih0 := ferruleref4_Put.mono_l k
  exact ih0 a0
set_option maxHeartbeats 8000000 in
set_option maxRecDepth 100000 in
theorem ferruleref4_Put.calls (k : Nat) : ∀ (a0 : Int) (r : List Int) (w : World) (h : ferruleref4_Put.f k a0 = some r),
    Calls Try.prog 29 #[.int .u64 a0] w fun e w' => ∃ v0_ : Value, e = .returned (v0_) ∧ Kd.R (Kd.int .u8) 5 w' w.heap.size (fun _ => True) v0_ r ∧ Below w.heap.size w w' := by
  induction k using Nat.strongRecOn with
  | _ k ih =>
  intro a0 r w h
  cases k with
  | zero => exact absurd h (by simp [ferruleref4_Put.f])
  | succ k =>
  simp only [ferruleref4_Put.f] at h
  have HB := Aside0.mk (Below.refl w.heap.size w)
  have H : (if a0 < 128 then (some (([(a0) % 256] : List Int))) else ((some (([(((Int.tmod a0 128) % 256) + 128) % 256] : List Int) : List Int)).bind fun y224 => ((ferruleref4_Put.f k (IntKind.u64.wrap (Int.tdiv a0 128))).bind fun t227 => (if y224.length + t227.length < 140737488355328 then (some (y224 ++ t227)) else (none))))) = some r := h
  clear h
  by_cases c2 : a0 < 128
  · rw [if_pos c2] at H
    have c2b0 : decide (a0 < 128) = true := decide_eq_true c2
    clear c2
    obtain ⟨y221, hy221⟩ : ∃ y_ : List Int, y_ = (([(a0) % 256] : List Int)) := ⟨_, rfl⟩
    replace H : (some y221) = some r := by first | (rw [hy221]; with_reducible exact H) | (have H2_ := (Option.bind_some _ _).symm.trans H; rw [hy221]; with_reducible exact H2_) | (have H2_ := (Option.bind_some _ _).symm.trans H; with_reducible exact H2_) | with_reducible exact H | (rw [hy221]; exact H) | exact H
    have Ny221 := Aside0.mk hy221
    clear hy221
    obtain rfl := Option.some.inj H
    go_enter Try.func29, Try.ntmps29
    go_wp2_with (first | ((with_reducible refine gate_dst (N := 7) rfl ?_); refine Kd.R_lit (Kd.int .u8) _ 5 ?hg (N := 7) ?hd (xs := ([(a0) % 256] : List Int)) (inner := [.int .u8 ((a0) % 256)]) (ok := fun _ => True) (okp := fun _ => True) ?hr ?hp (fun _ hk => hk) trivial (Below.refl _ _) (Nat.le_refl _) (by simp) ?_; (case hd => rfl); (case hg => rfl); (case hr => first | (go_simp; done) | (go_simp; rfl)); (case hp => exact (Reps.one (show Kd.M (Kd.int .u8) _ _ _ ((a0) % 256) [.int .u8 ((a0) % 256)] from rfl) (Reps.none _ _))); intro v222 w3 ho4 hb hg_ hnew_; clear hg_ hnew_; (first | rw [← Ny221.out] at ho4 | (simp only [Int.reduceToNat] at ho4; rw [← Ny221.out] at ho4)); have n0_ := Aside0.mk (Kd.R_lower ho4 (below_size (by repeat (first | (with_reducible first | exact HB.out | apply below_alloc | apply pw_below_drewN | apply below_drew1) | exact HB.out)))); have n1_ := Aside0.mk (below_step (by repeat (first | (with_reducible first | exact HB.out | apply below_alloc | apply pw_below_drewN | apply below_drew1) | exact HB.out)) hb); clear HB; have HO223 := n0_; have HB := n1_; clear n0_ n1_; clear hb ho4))
    go_ret
    exact ⟨_, by first | rfl | (simp [errW_none, errW_some] <;> rfl) | (simp [*, errW_none, errW_some] <;> rfl), by (with_reducible repeat (first | apply Kd.R_alloc | apply Kd.R_drewN | apply Kd.R_drew)); exact HO223.out, by repeat (first | (with_reducible first | exact HB.out | apply below_alloc | apply pw_below_drewN | apply below_drew1) | exact HB.out)⟩
  · rw [if_neg c2] at H
    have c2b0 : decide (a0 < 128) = false := decide_eq_false c2
    clear c2
    obtain ⟨y224, hy224⟩ : ∃ y_ : List Int, y_ = (([(((Int.tmod a0 128) % 256) + 128) % 256] : List Int)) := ⟨_, rfl⟩
    replace H : ((ferruleref4_Put.f k (IntKind.u64.wrap (Int.tdiv a0 128))).bind fun t227 => (if y224.length + t227.length < 140737488355328 then (some (y224 ++ t227)) else (none))) = some r := by first | (rw [hy224]; with_reducible exact H) | (have H2_ := (Option.bind_some _ _).symm.trans H; rw [hy224]; with_reducible exact H2_) | (have H2_ := (Option.bind_some _ _).symm.trans H; with_reducible exact H2_) | with_reducible exact H | (rw [hy224]; exact H) | exact H
    have Ny224 := Aside0.mk hy224
    clear hy224
    replace H := Option.bind_eq_some_iff.mp H
    obtain ⟨t227, A50, H⟩ := H
    replace H : (if y224.length + t227.length < 140737488355328 then (some (y224 ++ t227)) else (none)) = some r := H
    have A5 := Aside0.mk A50
    clear A50
    by_cases c6 : y224.length + t227.length < 140737488355328
    · rw [if_pos c6] at H
      have LMc6 := Aside0.mk c6
      clear c6
      obtain ⟨y230, hy230⟩ : ∃ y_ : List Int, y_ = (y224 ++ t227) := ⟨_, rfl⟩
      replace H : (some y230) = some r := by first | (rw [hy230]; with_reducible exact H) | (have H2_ := (Option.bind_some _ _).symm.trans H; rw [hy230]; with_reducible exact H2_) | (have H2_ := (Option.bind_some _ _).symm.trans H; with_reducible exact H2_) | with_reducible exact H | (rw [hy230]; exact H) | exact H
      have Ny230 := Aside0.mk hy230
      clear hy230
      obtain rfl := Option.some.inj H
      go_enter Try.func29, Try.ntmps29
      go_wp2_with (first | ((with_reducible refine gate_dst (N := 12) rfl ?_); refine Kd.R_lit (Kd.int .u8) _ 5 ?hg (N := 12) ?hd (xs := ([(((Int.tmod a0 128) % 256) + 128) % 256] : List Int)) (inner := [.int .u8 ((((Int.tmod a0 128) % 256) + 128) % 256)]) (ok := fun _ => True) (okp := fun _ => True) ?hr ?hp (fun _ hk => hk) trivial (Below.refl _ _) (Nat.le_refl _) (by simp) ?_; (case hd => rfl); (case hg => rfl); (case hr => first | (go_simp; done) | (go_simp; rfl)); (case hp => exact (Reps.one (show Kd.M (Kd.int .u8) _ _ _ ((((Int.tmod a0 128) % 256) + 128) % 256) [.int .u8 ((((Int.tmod a0 128) % 256) + 128) % 256)] from rfl) (Reps.none _ _))); intro v225 w7 ho8 hb hg_ hnew_; clear hg_ hnew_; (first | rw [← Ny224.out] at ho8 | (simp only [Int.reduceToNat] at ho8; rw [← Ny224.out] at ho8)); have n0_ := Aside0.mk (Kd.R_lower ho8 (below_size (by repeat (first | (with_reducible first | exact HB.out | apply below_alloc | apply pw_below_drewN | apply below_drew1) | exact HB.out)))); have n1_ := Aside0.mk (below_step (by repeat (first | (with_reducible first | exact HB.out | apply below_alloc | apply pw_below_drewN | apply below_drew1) | exact HB.out)) hb); clear HB; have HO226 := n0_; have HB := n1_; clear n0_ n1_; clear hb ho8) | ((with_reducible refine gate_callee (f := 29) rfl ?_); refine goesL_ (some 15) rfl rfl Try.func29 (by kernel_rfl) rfl #[.int .u64 (IntKind.u64.wrap (Int.tdiv a0 128))] rfl (by (try simp only [List.map_toArray, List.map_cons, List.map_nil]); first | done | rfl | (simp only [List.length_drop, List.length_take]; rfl)) ?_; (with_reducible refine (ih k (by omega) (IntKind.u64.wrap (Int.tdiv a0 128)) t227 _ A5.out).mono ?_); rintro e w9 ⟨v228, rfl, ho0, hb⟩; refine ⟨_, rfl, ?_⟩; have n0_ := Aside0.mk (Kd.R_elder' (by (with_reducible repeat (first | apply Kd.R_alloc | apply Kd.R_drewN | apply Kd.R_drew)); exact HO226.out) (Kd.R_base ho0) hb); have n1_ := Aside0.mk (Kd.R_lower (Kd.R_new' ho0 (Kd.R_lt (by (with_reducible repeat (first | apply Kd.R_alloc | apply Kd.R_drewN | apply Kd.R_drew)); exact HO226.out))) (below_size (by repeat (first | (with_reducible first | exact HB.out | apply below_alloc | apply pw_below_drewN | apply below_drew1) | exact HB.out)))); have n2_ := Aside0.mk (below_step (by repeat (first | (with_reducible first | exact HB.out | apply below_alloc | apply pw_below_drewN | apply below_drew1) | exact HB.out)) hb); clear HO226; clear HB; have HO226 := n0_; have HO229 := n1_; have HB := n2_; clear n0_ n1_ n2_; (try clear hb); (try clear hb2); (try clear hk); (try clear hi); (try clear ho0); obtain ⟨Ao11, co11, eo11⟩ := Kd.R_slice HO229.out; subst eo11) | ((with_reducible refine gate_builtin (b := .append) (xs := #[.tmp 12, .tmp 15]) rfl ?_); at_builtin; refine Kd.R_append_rows (Kd.int .u8) (w0 := w) w.heap.size rfl (.tmp 12) (.tmp 15) 48 5 (.int .u8 0) 1 rfl Try.underlying48 info5 rfl (by decide) (by omega) v225 y224 t227 _ _ _ (fun k_ => some k_ ≠ (.slice Ao11 t227.length co11 : Value).ownBlock) (fun _ => False) rfl rfl ?aO ?aR (fun _ _ h => h) (fun _ h => h.elim) ?aF ?aB ?aS ?aL ?_; (case aR => repeat (first | exact (Kd.R_reads' HO229.out).2.2 | (with_reducible refine Kd.C_alloc ?_ _) | (with_reducible refine Kd.C_drewN ?_ _) | (with_reducible refine Kd.C_drew ?_))); (case aB => exact (by repeat (first | (with_reducible first | exact HB.out | apply below_alloc | apply pw_below_drewN | apply below_drew1) | exact HB.out))); (case aF => exact (fun k_ hk => Kd.fresh' (Kd.R_lt (by (with_reducible repeat (first | apply Kd.R_alloc | apply Kd.R_drewN | apply Kd.R_drew)); exact HO229.out)) k_ hk)); (case aO => exact (by (with_reducible repeat (first | apply Kd.R_alloc | apply Kd.R_drewN | apply Kd.R_drew)); exact Kd.R_mono HO226.out (fun _ hk => hk.2))); (case aS => exact (below_size (by repeat (first | (with_reducible first | exact HB.out | apply below_alloc | apply pw_below_drewN | apply below_drew1) | exact HB.out)))); (case aL => have := LMc6.out; omega); intro v231 w10 ho hb hg hat; rw [← Ny230.out] at ho; have n0_ := Aside0.mk (Kd.R_after (ok := (fun _ => True)) (by (with_reducible repeat (first | apply Kd.R_alloc | apply Kd.R_drewN | apply Kd.R_drew)); exact HO229.out) hg hat); have n1_ := Aside0.mk (hb); have n2_ := Aside0.mk (ho); clear HO229; clear HB; clear HO226; have HO229 := n0_; have HB := n1_; have HO232 := n2_; clear n0_ n1_ n2_; clear ho hb hg hat))
      go_ret
      exact ⟨_, by first | rfl | (simp [errW_none, errW_some] <;> rfl) | (simp [*, errW_none, errW_some] <;> rfl), by (with_reducible repeat (first | apply Kd.R_alloc | apply Kd.R_drewN | apply Kd.R_drew)); exact Kd.R_mono HO232.out (fun _ hk => trivial), by repeat (first | (with_reducible first | exact HB.out | apply below_alloc | apply pw_below_drewN | apply below_drew1) | exact HB.out)⟩
    · rw [if_neg c6] at H
      exact absurd H (by simp)

/-! ### ferruleref16_l: function 25 -/
def ferruleref16_l.f (k : Nat) (a0 : Int) : Option (Int) := (ferruleref4_Put.f k (IntKind.u64.wrap (a0))).bind fun t233 => (some (t233.length : Int))
theorem ferruleref16_l.mono : ∀ a0 k, LeO (ferruleref16_l.f k a0) (ferruleref16_l.f (k + 1) a0) := by
  intro a0 k
  unfold ferruleref16_l.f
  repeat' first
      | (with_reducible exact ferruleref4_Put.mono _ _)
      | (with_reducible exact LeO.refl _)
      | (with_reducible exact LeO.none _)
      | (with_reducible refine LeO.ite ?_ ?_)
      | (with_reducible refine LeO.bind ?_ (fun _ => ?_))
      | exact ferruleref4_Put.mono _ _
      | exact LeO.none _
      | refine LeO.ite ?_ ?_
      | refine LeO.bind ?_ (fun _ => ?_)
set_option maxHeartbeats 8000000 in
set_option maxRecDepth 100000 in
theorem ferruleref16_l.calls (k : Nat) (a0 : Int) (r : Int) (w : World) (h : ferruleref16_l.f k a0 = some r) :
    Calls Try.prog 25 #[.int .i64 a0] w fun e w' => e = .returned (.int .i64 r) ∧ Below w.heap.size w w' := by
  have HB := Aside0.mk (Below.refl w.heap.size w)
  have H : ((ferruleref4_Put.f k (IntKind.u64.wrap (a0))).bind fun t233 => (some (t233.length : Int))) = some r := h
  clear h
  replace H := Option.bind_eq_some_iff.mp H
  obtain ⟨t233, A20, H⟩ := H
  replace H : (some (t233.length : Int)) = some r := H
  have A2 := Aside0.mk A20
  clear A20
  obtain rfl := Option.some.inj H
  go_enter Try.func25, Try.ntmps25
  go_wp2_with (first | ((with_reducible refine gate_callee (f := 29) rfl ?_); refine goesL_ (some 5) rfl rfl Try.func29 (by kernel_rfl) rfl #[.int .u64 (IntKind.u64.wrap (a0))] rfl (by (try simp only [List.map_toArray, List.map_cons, List.map_nil]); first | done | rfl | (simp only [List.length_drop, List.length_take]; rfl)) ?_; (with_reducible refine (ferruleref4_Put.calls k (IntKind.u64.wrap (a0)) t233 _ A2.out).mono ?_); rintro e w3 ⟨v234, rfl, ho0, hb⟩; refine ⟨_, rfl, ?_⟩; have n0_ := Aside0.mk (Kd.R_lower ho0 (below_size (by repeat (first | (with_reducible first | exact HB.out | apply below_alloc | apply pw_below_drewN | apply below_drew1) | exact HB.out)))); have n1_ := Aside0.mk (below_step (by repeat (first | (with_reducible first | exact HB.out | apply below_alloc | apply pw_below_drewN | apply below_drew1) | exact HB.out)) hb); clear HB; have HO235 := n0_; have HB := n1_; clear n0_ n1_; (try clear hb); (try clear hb2); (try clear hk); (try clear hi); (try clear ho0); obtain ⟨Ao4, co4, eo4⟩ := Kd.R_slice HO235.out; subst eo4))
  go_ret
  exact ⟨by first | rfl | (simp [errW_none, errW_some] <;> rfl) | (simp [*, errW_none, errW_some] <;> rfl), by repeat (first | (with_reducible first | exact HB.out | apply below_alloc | apply pw_below_drewN | apply below_drew1) | exact HB.out)⟩

/-! ### ferruleref12_Pages: function 26 -/
def ferruleref12_Pages.j0 : Nat → Int → Bool → Option (Int)
  | 0, _, _ => none
  | k + 1, x0, x8 => if x8 = true then (some 0) else (if x0 = 0 then (some 1) else (some (wrap64 (Int.tdiv (wrap64 ((wrap64 (x0 + 32)) - 1)) 32))))
def ferruleref12_Pages.f (k : Nat) (a0 : Int) : Option (Int) := if a0 < 0 then (ferruleref12_Pages.j0 k a0 true) else (ferruleref12_Pages.j0 k a0 (decide (a0 > 65536)))
theorem ferruleref12_Pages.mono_l : ∀ k, (∀ y0 y1, LeO (ferruleref12_Pages.j0 k y0 y1) (ferruleref12_Pages.j0 (k + 1) y0 y1))
  | 0 => fun _ _ r h => by simp [ferruleref12_Pages.j0] at h
  | k + 1 => by
    have ih0 := ferruleref12_Pages.mono_l k
    · intro y0 y1
      unfold ferruleref12_Pages.j0
      repeat' first
      | (with_reducible exact ih0 _ _)
      | (with_reducible exact LeO.refl _)
      | (with_reducible exact LeO.none _)
      | (with_reducible refine LeO.ite ?_ ?_)
      | (with_reducible refine LeO.bind ?_ (fun _ => ?_))
      | exact ih0 _ _
      | exact LeO.none _
      | refine LeO.ite ?_ ?_
      | refine LeO.bind ?_ (fun _ => ?_)
theorem ferruleref12_Pages.mono : ∀ a0 k, LeO (ferruleref12_Pages.f k a0) (ferruleref12_Pages.f (k + 1) a0) := by
  intro a0 k
  have ih0 := ferruleref12_Pages.mono_l k
  unfold ferruleref12_Pages.f
  repeat' first
      | (with_reducible exact ih0 _ _)
      | (with_reducible exact LeO.refl _)
      | (with_reducible exact LeO.none _)
      | (with_reducible refine LeO.ite ?_ ?_)
      | (with_reducible refine LeO.bind ?_ (fun _ => ?_))
      | exact ih0 _ _
      | exact LeO.none _
      | refine LeO.ite ?_ ?_
      | refine LeO.bind ?_ (fun _ => ?_)
set_option maxHeartbeats 8000000 in
set_option maxRecDepth 100000 in
theorem ferruleref12_Pages.calls (k : Nat) (a0 : Int) (r : Int) (w : World) (h : ferruleref12_Pages.f k a0 = some r) :
    Calls Try.prog 26 #[.int .i64 a0] w fun e w' => e = .returned (.int .i64 r) ∧ Drawn0 w w' := by
  have H : (if a0 < 0 then (ferruleref12_Pages.j0 k a0 true) else (ferruleref12_Pages.j0 k a0 (decide (a0 > 65536)))) = some r := h
  clear h
  have HC2 := Aside0.mk H
  clear H
  go_enter Try.func26, Try.ntmps26
  go_upto_region 1 with (fail)
  go_cut [8] (fun v8 wc => ∃ (kq : Nat) (x8_1 : Bool), v8 = .bool x8_1 ∧ Aside0 (ferruleref12_Pages.j0 kq a0 x8_1 = some r) ∧ Aside0 (kq ≤ k) ∧ Drawn0 w wc)
  case first =>
    have H := HC2.out
    clear HC2
    by_cases c3 : a0 < 0
    · rw [if_pos c3] at H
      have c3b0 : decide (a0 < 0) = true := decide_eq_true c3
      clear c3
      (first | rw [c3b0] | (simp only [i64_w, i32_w]; rw [c3b0]) | skip)
      have H' := Aside0.mk H
      clear H
      go_wp2
      go_meet
      case rel => exact ⟨_, (true), (by first | rfl | (simp; done) | (simp [*]; done)), H', ⟨by first | omega | exact Nat.le_refl _⟩, by repeat (first | exact Drawn0.refl _ | apply Drawn0.step)⟩
    · rw [if_neg c3] at H
      have c3b0 : decide (a0 < 0) = false := decide_eq_false c3
      clear c3
      (first | rw [c3b0] | (simp only [i64_w, i32_w]; rw [c3b0]) | skip)
      have H' := Aside0.mk H
      clear H
      go_wp2
      go_meet
      case rel => exact ⟨_, (decide (a0 > 65536)), (by first | rfl | (simp; done) | (simp [*]; done)), H', ⟨by first | omega | exact Nat.le_refl _⟩, by repeat (first | exact Drawn0.refl _ | apply Drawn0.step)⟩
  case rest =>
    clear HC2
    try clear c2
    try clear p2
    try clear c3
    try clear c3b0
    obtain ⟨kq, x8_1, rfl, HA, HJ1, ⟨mc1, rfl⟩⟩ := hcut
    cases kq with
    | zero => exact absurd HA.out (by simp [ferruleref12_Pages.j0])
    | succ kj1 =>
      have H := HA.out
      clear HA
      simp only [ferruleref12_Pages.j0] at H
      by_cases c4 : x8_1 = true
      · subst c4
        have H1 : (some 0) = some r := by rw [if_pos rfl] at H; exact H
        clear H
        have H := H1
        clear H1
        obtain rfl := Option.some.inj H
        go_wp2
        go_ret
        exact ⟨by first | rfl | (simp; done) | (simp [*]; done), by repeat (first | exact Drawn0.refl _ | apply Drawn0.step)⟩
      · replace c4 := Bool.eq_false_iff.mpr c4
        subst c4
        have H1 : (if a0 = 0 then (some 1) else (some (wrap64 (Int.tdiv (wrap64 ((wrap64 (a0 + 32)) - 1)) 32)))) = some r := by rw [if_neg (show ¬ (false = true) by decide)] at H; exact H
        clear H
        have H := H1
        clear H1
        by_cases c5 : a0 = 0
        · rw [if_pos c5] at H
          have c5b0 : (a0 == 0) = true := beq_iff_eq.mpr c5
          have c5b1 : (a0 != 0) = false := bne_eq_false_iff_eq.mpr c5
          clear c5
          obtain rfl := Option.some.inj H
          go_wp2
          go_ret
          exact ⟨by first | rfl | (simp; done) | (simp [*]; done), by repeat (first | exact Drawn0.refl _ | apply Drawn0.step)⟩
        · rw [if_neg c5] at H
          have c5b0 : (a0 == 0) = false := beq_eq_false_iff_ne.mpr c5
          have c5b1 : (a0 != 0) = true := bne_iff_ne.mpr c5
          obtain rfl := Option.some.inj H
          go_wp2
          go_ret
          exact ⟨by first | rfl | (simp; done) | (simp [*]; done), by repeat (first | exact Drawn0.refl _ | apply Drawn0.step)⟩

/-! ### ferruleref16_Up: function 27 -/
def ferruleref16_Up.f (a0 : Int) (a1 : Int) : Option (Int) := if a1 = 0 then (none) else (some (wrap64 (Int.tdiv (wrap64 ((wrap64 (a0 + a1)) - 1)) a1)))
set_option maxHeartbeats 8000000 in
set_option maxRecDepth 100000 in
theorem ferruleref16_Up.calls (a0 : Int) (a1 : Int) (r : Int) (w : World) (h : ferruleref16_Up.f a0 a1 = some r) :
    Calls Try.prog 27 #[.int .i64 a0, .int .i64 a1] w fun e w' => e = .returned (.int .i64 r) ∧ Drawn0 w w' := by
  have H : (if a1 = 0 then (none) else (some (wrap64 (Int.tdiv (wrap64 ((wrap64 (a0 + a1)) - 1)) a1)))) = some r := h
  clear h
  by_cases c3 : a1 = 0
  · rw [if_pos c3] at H
    exact absurd H (by simp)
  · rw [if_neg c3] at H
    have c3b0 : (a1 == 0) = false := beq_eq_false_iff_ne.mpr c3
    have c3b1 : (a1 != 0) = true := bne_iff_ne.mpr c3
    obtain rfl := Option.some.inj H
    go_enter Try.func27, Try.ntmps27
    go_wp2
    go_ret
    exact ⟨by first | rfl | (simp; done) | (simp [*]; done), by repeat (first | exact Drawn0.refl _ | apply Drawn0.step)⟩

end Go.Proofs.Ytbeaekknpejnlaa.PSizeGreatest
