/- For any runs, any pieces and any numbers: the valid pages of each block, the parts of the runs and a block's parts are counted right, by the reference's own answers, for the runs and for what the pieces fold to; the runs stay. Conditions: none beyond the row's own. -/
import Derived.Test.YtnogokemjcfaoaaPBlocksRunsx10
namespace Go.Proofs.Ytnogokemjcfaoaa.Pure
open Go.RowKit Go.Proofs.Ytnogokemjcfaoaa.PBlocksRuns Go.Proofs.YtnogokemjcfaoaaW.PrintWords Go.Proofs.YtnogokemjcfaoaaW.PrintLast Go.Proofs.YtnogokemjcfaoaaW.PrintMore
set_option linter.unusedVariables false
set_option linter.unusedSimpArgs false

theorem wr {x : Int} (h0 : -9223372036854775808 ≤ x) (h1 : x ≤ 9223372036854775807) : wrap64 x = x := by unfold wrap64; omega
theorem wr1 {i n : Int} (h0 : 0 ≤ i) (h : i < n) (hn : n ≤ 140737488351232) : wrap64 (i + 1) = i + 1 := wr (by omega) (by omega)

/-- p holds from i on, d times -/
def allB (p : Int → Bool) (i : Int) : Nat → Bool
  | 0 => true
  | d + 1 => p i && allB p (i + 1) d
theorem allB_true {p : Int → Bool} {i : Int} {d : Nat} (h : allB p i d = true) : ∀ j, i ≤ j → j < i + d → p j = true := by
  induction d generalizing i with
  | zero => intro j h1 h2; omega
  | succ d ih =>
    simp only [allB, Bool.and_eq_true] at h
    intro j h1 h2
    by_cases e : j = i
    · subst e; exact h.1
    · exact ih h.2 j (by omega) (by omega)
theorem allB_of {p : Int → Bool} {i : Int} {d : Nat} (h : ∀ j, i ≤ j → j < i + d → p j = true) : allB p i d = true := by
  induction d generalizing i with
  | zero => rfl
  | succ d ih => simp only [allB, Bool.and_eq_true]; exact ⟨h i (by omega) (by omega), ih fun j h1 h2 => h j (by omega) (by omega)⟩
theorem allB_congr {p q : Int → Bool} {i : Int} {d : Nat} (h : ∀ j, i ≤ j → j < i + d → p j = q j) : allB p i d = allB q i d := by
  induction d generalizing i with
  | zero => rfl
  | succ d ih => simp only [allB]; rw [h i (by omega) (by omega), ih fun j h1 h2 => h j (by omega) (by omega)]

abbrev R := S35
def r_ (l : List R) (i : Int) : R := rd_T35 l i
/-! ### Form -/
def good1 (x : R) : Prop := 0 ≤ x.f0 ∧ x.f0 ≤ 1073741824 ∧ 0 ≤ x.f2 ∧ x.f2 ≤ 1073741824 ∧ 1 ≤ x.f1 ∧ x.f1 ≤ 1073741824
instance (x : R) : Decidable (good1 x) := by unfold good1; exact inferInstance
def adj (p x : R) : Prop := p.f0 + p.f1 ≤ x.f0 ∧ ¬ (p.f0 + p.f1 = x.f0 ∧ p.f2 + p.f1 = x.f2)
instance (p x : R) : Decidable (adj p x) := by unfold adj; exact inferInstance
def formI (l : List R) (i : Int) : Bool := decide (good1 (rd_T35 l i)) && (decide (i = 0) || decide (adj (rd_T35 l (i - 1)) (rd_T35 l i)))
def form (l : List R) : Bool := allB (formI l) 0 l.length

theorem form_prog (l : List R) (hl : (l.length : Int) ≤ 140737488351232) (d : Nat) : ∀ (i : Int), 0 ≤ i → (l.length : Int) - i = d → (i = 0 ∨ good1 (rd_T35 l (i - 1))) →
    Ev (fun k => span_Form.l0 k l l (l.length : Int) i) (allB (formI l) i d) := by
  induction d with
  | zero =>
    intro i h0 hd _
    refine Ev.step (fun k => ?_) (Ev.now _)
    simp only [span_Form.l0, allB]
    rw [if_neg (by omega)]
  | succ d ih =>
    intro i h0 hd hp
    have hi : i < (l.length : Int) := by omega
    have hw := wr1 h0 hi hl
    have hw1 : wrap64 (i - 1) = i - 1 := wr (by omega) (by omega)
    generalize hx : rd_T35 l i = x
    have step1 : ∀ b, b = !decide (good1 x) → Ev (fun k => span_Form.j1 k l i l (l.length : Int) i b x.f0 x.f1 x.f2) (allB (formI l) i (d + 1)) := by
      intro b hb
      subst hb
      by_cases hg : good1 x
      · simp only [hg, decide_true, Bool.not_true]
        have nx := ih (i + 1) (by omega) (by omega) (Or.inr (by rw [show i + 1 - 1 = i by omega, hx]; exact hg))
        by_cases hi0 : i = 0
        · refine Ev.step (f := fun k => span_Form.l0 k l l (l.length : Int) (i + 1)) (fun k => ?_) ?_
          · simp only [span_Form.j1]
            rw [if_neg (by decide), if_pos hi0, hw]
          · have hfi : formI l i = true := by
              unfold formI
              rw [hx, decide_eq_true hg, decide_eq_true hi0]; rfl
            simp only [allB, hfi, Bool.true_and]
            exact nx
        · have hgp : good1 (rd_T35 l (i - 1)) := hp.resolve_left hi0
          generalize hpx : rd_T35 l (i - 1) = p at hgp
          obtain ⟨a0, a1, a2, a3, a4, a5⟩ := hg
          obtain ⟨b0, b1, b2, b3, b4, b5⟩ := hgp
          have e1 : wrap64 (x.f0 - p.f0) = x.f0 - p.f0 := wr (by omega) (by omega)
          have e2 : wrap64 (x.f2 - p.f2) = x.f2 - p.f2 := wr (by omega) (by omega)
          have hfi : formI l i = decide (adj p x) := by
            have hgx : good1 x := ⟨a0, a1, a2, a3, a4, a5⟩
            simp [formI, hx, hpx, hi0, hgx]
          by_cases c1 : x.f0 - p.f0 < p.f1
          · refine Ev.step (f := fun _ => some false) (fun k => ?_) (by
              have : ¬ adj p x := fun h => by have := h.1; omega
              simp only [allB, hfi, this, decide_false, Bool.false_and]; exact Ev.now _)
            simp only [span_Form.j1]
            rw [if_neg (by decide), if_neg hi0, hw1, if_pos (by omega), if_pos (by omega), hpx, e1, if_pos c1]
          · by_cases c2 : x.f0 - p.f0 = p.f1
            · by_cases c3 : x.f2 - p.f2 = p.f1
              · refine Ev.step (f := fun _ => some false) (fun k => ?_) (by
                  have : ¬ adj p x := fun h => h.2 ⟨by omega, by omega⟩
                  simp only [allB, hfi, this, decide_false, Bool.false_and]; exact Ev.now _)
                simp only [span_Form.j1]
                rw [if_neg (by decide), if_neg hi0, hw1, if_pos (by omega), if_pos (by omega), hpx, e1, if_neg c1, if_pos c2, e2, if_pos c3]
              · refine Ev.step (f := fun k => span_Form.l0 k l l (l.length : Int) (i + 1)) (fun k => ?_) (by
                  have : adj p x := ⟨by omega, fun h => by omega⟩
                  simp only [allB, hfi, this, decide_true, Bool.true_and]; exact nx)
                simp only [span_Form.j1]
                rw [if_neg (by decide), if_neg hi0, hw1, if_pos (by omega), if_pos (by omega), hpx, e1, if_neg c1, if_pos c2, e2, if_neg c3, hw]
            · refine Ev.step (f := fun k => span_Form.l0 k l l (l.length : Int) (i + 1)) (fun k => ?_) (by
                have : adj p x := ⟨by omega, fun h => by omega⟩
                simp only [allB, hfi, this, decide_true, Bool.true_and]; exact nx)
              simp only [span_Form.j1]
              rw [if_neg (by decide), if_neg hi0, hw1, if_pos (by omega), if_pos (by omega), hpx, e1, if_neg c1, if_neg c2, hw]
      · simp only [hg, decide_false, Bool.not_false]
        refine Ev.step (f := fun _ => some false) (fun k => by simp only [span_Form.j1, if_true]) (by
          simp only [allB, formI, hx, hg, decide_false, Bool.false_and]; exact Ev.now _)
    have hB : (!decide (good1 x)) = (decide (x.f0 < 0) || decide (x.f0 > 1073741824) || decide (x.f2 < 0) || decide (x.f2 > 1073741824) || decide (x.f1 < 1) || decide (x.f1 > 1073741824)) := by
      by_cases hg : good1 x
      · obtain ⟨a0, a1, a2, a3, a4, a5⟩ := id hg
        rw [decide_eq_true hg, decide_eq_false (show ¬ x.f0 < 0 by omega), decide_eq_false (show ¬ x.f0 > 1073741824 by omega), decide_eq_false (show ¬ x.f2 < 0 by omega), decide_eq_false (show ¬ x.f2 > 1073741824 by omega), decide_eq_false (show ¬ x.f1 < 1 by omega), decide_eq_false (show ¬ x.f1 > 1073741824 by omega)]
        rfl
      · rw [decide_eq_false hg]
        have : x.f0 < 0 ∨ x.f0 > 1073741824 ∨ x.f2 < 0 ∨ x.f2 > 1073741824 ∨ x.f1 < 1 ∨ x.f1 > 1073741824 := by
          unfold good1 at hg; omega
        simp only [Bool.not_false]
        symm
        simp only [Bool.or_eq_true, decide_eq_true_eq]
        omega
    refine Ev.step (f := fun k => span_Form.j1 k l i l (l.length : Int) i (!decide (good1 x)) x.f0 x.f1 x.f2) (fun k => ?_) (step1 _ rfl)
    simp only [span_Form.l0]
    rw [if_pos hi, if_pos h0, if_pos hi, hx, hB]
    by_cases c1 : x.f0 < 0
    · simp [c1]
    by_cases c2 : x.f0 > 1073741824
    · simp [c1, c2]
    by_cases c3 : x.f2 < 0
    · simp [c1, c2, c3]
    by_cases c4 : x.f2 > 1073741824
    · simp [c1, c2, c3, c4]
    by_cases c5 : x.f1 < 1
    · simp [c1, c2, c3, c4, c5]
    simp [c1, c2, c3, c4, c5]

theorem form_ev (l : List R) (hl : (l.length : Int) ≤ 140737488351232) : Ev (fun k => span_Form.f k l) (form l) :=
  Ev.congr (fun k => by rw [span_Form.f]) (form_prog l hl l.length 0 (by omega) (by omega) (Or.inl rfl))

theorem form_at {l : List R} (h : form l = true) {i : Int} (h0 : 0 ≤ i) (h1 : i < (l.length : Int)) : good1 (rd_T35 l i) ∧ (i = 0 ∨ adj (rd_T35 l (i - 1)) (rd_T35 l i)) := by
  have := allB_true h i h0 (by omega)
  unfold formI at this
  simpa using this

/-! ### The reference's Form -/
theorem inside_eq (a b : Int) : ferruleref9_inside.f a b = some (decide (a ≥ b ∧ a ≤ 1073741824)) := by
  unfold ferruleref9_inside.f
  by_cases h : a ≥ b
  · rw [if_pos h]; simp [h]
  · rw [if_neg h]; simp [h]

theorem form_ref (l : List R) (hl : (l.length : Int) ≤ 140737488351232) (d : Nat) : ∀ (i : Int), 0 ≤ i → (l.length : Int) - i = d → (i = 0 ∨ good1 (rd_T35 l (i - 1))) →
    Ev (fun k => ferruleref9_Form.l0 k l i) (allB (formI l) i d) := by
  induction d with
  | zero =>
    intro i h0 hd _
    refine Ev.step (fun k => ?_) (Ev.now _)
    simp only [ferruleref9_Form.l0, allB]
    rw [if_neg (by omega)]
  | succ d ih =>
    intro i h0 hd hp
    have hi : i < (l.length : Int) := by omega
    have hw := wr1 h0 hi hl
    have hw1 : wrap64 (i - 1) = i - 1 := wr (by omega) (by omega)
    generalize hx : rd_T35 l i = x
    have step1 : Ev (fun k => ferruleref9_Form.j1 k l i (!decide (good1 x))) (allB (formI l) i (d + 1)) := by
      by_cases hg : good1 x
      · simp only [hg, decide_true, Bool.not_true]
        have nx := ih (i + 1) (by omega) (by omega) (Or.inr (by rw [show i + 1 - 1 = i by omega, hx]; exact hg))
        by_cases hi0 : i = 0
        · refine Ev.step (f := fun k => ferruleref9_Form.l0 k l (i + 1)) (fun k => ?_) ?_
          · simp only [ferruleref9_Form.j1]
            rw [if_neg (by decide), if_pos hi0, hw]
          · have hfi : formI l i = true := by
              unfold formI
              rw [hx, decide_eq_true hg, decide_eq_true hi0]; rfl
            simp only [allB, hfi, Bool.true_and]
            exact nx
        · have hgp : good1 (rd_T35 l (i - 1)) := hp.resolve_left hi0
          generalize hpx : rd_T35 l (i - 1) = p at hgp
          have hgx := hg
          obtain ⟨a0, a1, a2, a3, a4, a5⟩ := hg
          obtain ⟨b0, b1, b2, b3, b4, b5⟩ := hgp
          have e1 : wrap64 (p.f0 + p.f1) = p.f0 + p.f1 := wr (by omega) (by omega)
          have e2 : wrap64 (p.f2 + p.f1) = p.f2 + p.f1 := wr (by omega) (by omega)
          have hfi : formI l i = decide (adj p x) := by
            simp [formI, hx, hpx, hi0, hgx]
          by_cases c1 : p.f0 + p.f1 > x.f0
          · refine Ev.step (f := fun _ => some false) (fun k => ?_) (by
              have : ¬ adj p x := fun h => by have := h.1; omega
              simp only [allB, hfi, this, decide_false, Bool.false_and]; exact Ev.now _)
            simp only [ferruleref9_Form.j1]
            rw [if_neg (by decide), if_neg hi0, hw1, if_pos (by omega), if_pos (by omega), if_pos h0, if_pos hi, hpx, hx, e1, if_pos c1]
          · by_cases c2 : p.f0 + p.f1 = x.f0
            · by_cases c3 : p.f2 + p.f1 = x.f2
              · refine Ev.step (f := fun _ => some false) (fun k => ?_) (by
                  have : ¬ adj p x := fun h => h.2 ⟨by omega, by omega⟩
                  simp only [allB, hfi, this, decide_false, Bool.false_and]; exact Ev.now _)
                simp only [ferruleref9_Form.j1]
                rw [if_neg (by decide), if_neg hi0, hw1, if_pos (by omega), if_pos (by omega), if_pos h0, if_pos hi, hpx, hx, e1, if_neg c1, if_pos c2, e2, if_pos c3]
              · refine Ev.step (f := fun k => ferruleref9_Form.l0 k l (i + 1)) (fun k => ?_) (by
                  have : adj p x := ⟨by omega, fun h => by omega⟩
                  simp only [allB, hfi, this, decide_true, Bool.true_and]; exact nx)
                simp only [ferruleref9_Form.j1]
                rw [if_neg (by decide), if_neg hi0, hw1, if_pos (by omega), if_pos (by omega), if_pos h0, if_pos hi, hpx, hx, e1, if_neg c1, if_pos c2, e2, if_neg c3, hw]
            · refine Ev.step (f := fun k => ferruleref9_Form.l0 k l (i + 1)) (fun k => ?_) (by
                have : adj p x := ⟨by omega, fun h => by omega⟩
                simp only [allB, hfi, this, decide_true, Bool.true_and]; exact nx)
              simp only [ferruleref9_Form.j1]
              rw [if_neg (by decide), if_neg hi0, hw1, if_pos (by omega), if_pos (by omega), if_pos h0, if_pos hi, hpx, hx, e1, if_neg c1, if_neg c2, hw]
      · simp only [hg, decide_false, Bool.not_false]
        refine Ev.step (f := fun _ => some false) (fun k => by simp only [ferruleref9_Form.j1, if_true]) (by
          simp only [allB, formI, hx, hg, decide_false, Bool.false_and]; exact Ev.now _)
    refine Ev.step (f := fun k => ferruleref9_Form.j1 k l i (!decide (good1 x))) (fun k => ?_) step1
    simp only [ferruleref9_Form.l0]
    rw [if_pos hi, if_pos h0, hx, inside_eq, inside_eq, inside_eq]
    simp only [Option.bind_some]
    by_cases c1 : x.f0 ≥ 0 ∧ x.f0 ≤ 1073741824
    · by_cases c2 : x.f2 ≥ 0 ∧ x.f2 ≤ 1073741824
      · by_cases c3 : x.f1 ≥ 1 ∧ x.f1 ≤ 1073741824
        · have : good1 x := ⟨c1.1, c1.2, c2.1, c2.2, c3.1, c3.2⟩
          simp [c1, c2, c3, this]
        · have : ¬ good1 x := fun h => c3 ⟨h.2.2.2.2.1, h.2.2.2.2.2⟩
          simp only [decide_eq_true c1, decide_eq_true c2, decide_eq_false c3, decide_eq_false this, if_true]
      · have : ¬ good1 x := fun h => c2 ⟨h.2.2.1, h.2.2.2.1⟩
        simp only [decide_eq_true c1, decide_eq_false c2, decide_eq_false this, if_true, Bool.false_eq_true, if_false, Bool.not_false]
    · have : ¬ good1 x := fun h => c1 ⟨h.1, h.2.1⟩
      simp only [decide_eq_false c1, decide_eq_false this, Bool.false_eq_true, if_false, Bool.not_false]

theorem form_ref_ev (l : List R) (hl : (l.length : Int) ≤ 140737488351232) : Ev (fun k => ferruleref9_Form.f k l) (form l) :=
  Ev.congr (fun k => by rw [ferruleref9_Form.f]) (form_ref l hl l.length 0 (by omega) (by omega) (Or.inl rfl))

/-! ### Fits -/
def endsI (l : List R) (i : Int) : Bool := decide ((rd_T35 l i).f1 ≤ 512 ∧ (rd_T35 l i).f0 ≤ 512 - (rd_T35 l i).f1)
def fits (l : List R) : Bool := decide ((l.length : Int) ≤ 512) && (form l && allB (endsI l) 0 l.length)

theorem fits_loop (l : List R) (hl : (l.length : Int) ≤ 512) (hf : form l = true) (d : Nat) : ∀ (i : Int), 0 ≤ i → (l.length : Int) - i = d →
    Ev (fun k => blocks_fits.l0 k l (l.length : Int) i) (allB (endsI l) i d) := by
  induction d with
  | zero =>
    intro i h0 hd
    refine Ev.step (fun k => ?_) (Ev.now _)
    simp only [blocks_fits.l0, allB]
    rw [if_neg (by omega)]
  | succ d ih =>
    intro i h0 hd
    have hi : i < (l.length : Int) := by omega
    have hw := wr1 h0 hi (by omega)
    obtain ⟨a0, a1, a2, a3, a4, a5⟩ := (form_at hf h0 hi).1
    have e : wrap64 (512 - (rd_T35 l i).f1) = 512 - (rd_T35 l i).f1 := wr (by omega) (by omega)
    by_cases c1 : (rd_T35 l i).f1 > 512
    · refine Ev.step (f := fun _ => some false) (fun k => ?_) (by
        have : ¬ ((rd_T35 l i).f1 ≤ 512 ∧ (rd_T35 l i).f0 ≤ 512 - (rd_T35 l i).f1) := by omega
        simp only [allB, endsI, this, decide_false, Bool.false_and]; exact Ev.now _)
      simp only [blocks_fits.l0]
      rw [if_pos hi, if_pos h0, if_pos hi, if_pos c1]
    · by_cases c2 : (rd_T35 l i).f0 > 512 - (rd_T35 l i).f1
      · refine Ev.step (f := fun _ => some false) (fun k => ?_) (by
          have : ¬ ((rd_T35 l i).f1 ≤ 512 ∧ (rd_T35 l i).f0 ≤ 512 - (rd_T35 l i).f1) := by omega
          simp only [allB, endsI, this, decide_false, Bool.false_and]; exact Ev.now _)
        simp only [blocks_fits.l0]
        rw [if_pos hi, if_pos h0, if_pos hi, if_neg c1, e, if_pos c2]
      · refine Ev.step (f := fun k => blocks_fits.l0 k l (l.length : Int) (i + 1)) (fun k => ?_) (by
          have : (rd_T35 l i).f1 ≤ 512 ∧ (rd_T35 l i).f0 ≤ 512 - (rd_T35 l i).f1 := by omega
          simp only [allB]
          rw [show endsI l i = true from decide_eq_true this, Bool.true_and]
          exact ih (i + 1) (by omega) (by omega))
        simp only [blocks_fits.l0]
        rw [if_pos hi, if_pos h0, if_pos hi, if_neg c1, e, if_neg c2, hw]

theorem fits_ev (l : List R) (hl : (l.length : Int) ≤ 140737488351232) : Ev (fun k => blocks_fits.f k l) (fits l) := by
  by_cases h : (l.length : Int) > 512
  · refine Ev.congr (f := fun k => blocks_fits.j0 k l true) (fun k => by rw [blocks_fits.f, if_pos h]) ?_
    refine Ev.step (f := fun _ => some false) (fun k => by simp only [blocks_fits.j0, if_true]) ?_
    have e : fits l = false := by unfold fits; rw [decide_eq_false (by omega)]; rfl
    rw [e]; exact Ev.now _
  · refine Ev.congr (f := fun k => (span_Form.f k l).bind fun t105 => blocks_fits.j0 k l (!t105)) (fun k => by rw [blocks_fits.f, if_neg h]) ?_
    refine Ev.bind (form_ev l hl) ?_
    cases hf : form l with
    | false =>
      refine Ev.step (f := fun _ => some false) (fun k => by simp only [blocks_fits.j0, Bool.not_false, if_true]) ?_
      have e : fits l = false := by unfold fits; rw [hf]; simp
      rw [e]; exact Ev.now _
    | true =>
      refine Ev.step (f := fun k => blocks_fits.l0 k l (l.length : Int) 0) (fun k => by simp only [blocks_fits.j0, Bool.not_true, Bool.false_eq_true, if_false]) ?_
      have e : fits l = allB (endsI l) 0 l.length := by unfold fits; rw [hf, decide_eq_true (by omega)]; simp
      rw [e]; exact fits_loop l (by omega) hf l.length 0 (by omega) (by omega)

theorem ends_mono (l : List R) (hf : form l = true) (d : Nat) : ∀ (i : Int), 0 ≤ i → i + d < (l.length : Int) → (rd_T35 l i).f0 + (rd_T35 l i).f1 ≤ (rd_T35 l (i + d)).f0 + (rd_T35 l (i + d)).f1 := by
  induction d with
  | zero => intro i _ _; simp
  | succ d ih =>
    intro i h0 h1
    have h2 := ih i h0 (by omega)
    obtain ⟨g, a⟩ := form_at hf (show 0 ≤ i + ((d + 1 : Nat) : Int) by omega) h1
    have e : i + ((d + 1 : Nat) : Int) - 1 = i + (d : Int) := by omega
    rw [e] at a
    have := (a.resolve_left (by omega)).1
    have := g.2.2.2.2.1
    omega

theorem ref_fits_ev (l : List R) (hl : (l.length : Int) ≤ 140737488351232) : Ev (fun k => ferruleref13_Fits.f k l) (fits l) := by
  by_cases h : (l.length : Int) ≤ 512
  · refine Ev.congr (f := fun k => (ferruleref9_Form.f k l).bind fun t => if t = true then ((ferruleref9_Ends.f l 512).bind fun t195 => (some t195)) else some false) (fun k => by rw [ferruleref13_Fits.f, if_pos h]) ?_
    refine Ev.bind (form_ref_ev l hl) ?_
    cases hf : form l with
    | false =>
      have e : fits l = false := by unfold fits; rw [hf]; simp
      rw [e]; exact Ev.congr (fun k => by rw [if_neg (by decide)]) (Ev.now _)
    | true =>
      have e : fits l = allB (endsI l) 0 l.length := by unfold fits; rw [hf, decide_eq_true h]; simp
      rw [e]
      refine Ev.congr (f := fun _ => some (allB (endsI l) 0 l.length)) (fun k => ?_) (Ev.now _)
      rw [if_pos rfl]
      unfold ferruleref9_Ends.f
      by_cases h0 : (l.length : Int) = 0
      · rw [if_pos h0]
        have : l.length = 0 := by omega
        rw [this]; rfl
      · have hw : wrap64 ((l.length : Int) - 1) = (l.length : Int) - 1 := wr (by omega) (by omega)
        rw [if_neg h0, hw, if_pos (by omega), if_pos (by omega)]
        obtain ⟨a0, a1, a2, a3, a4, a5⟩ := (form_at hf (show 0 ≤ (l.length : Int) - 1 by omega) (by omega)).1
        have e2 : wrap64 ((rd_T35 l ((l.length : Int) - 1)).f0 + (rd_T35 l ((l.length : Int) - 1)).f1) = (rd_T35 l ((l.length : Int) - 1)).f0 + (rd_T35 l ((l.length : Int) - 1)).f1 := wr (by omega) (by omega)
        rw [e2]
        simp only [Option.bind_some]
        congr 1
        by_cases hc : (rd_T35 l ((l.length : Int) - 1)).f0 + (rd_T35 l ((l.length : Int) - 1)).f1 ≤ 512
        · rw [decide_eq_true hc]
          refine (allB_of fun j h1 h2 => decide_eq_true ?_).symm
          have hm := ends_mono l hf (l.length - 1 - j.toNat) j h1 (by omega)
          have ej : j + ((l.length - 1 - j.toNat : Nat) : Int) = (l.length : Int) - 1 := by omega
          rw [ej] at hm
          obtain ⟨b0, b1, b2, b3, b4, b5⟩ := (form_at hf h1 (by omega)).1
          omega
        · rw [decide_eq_false hc]
          cases ha : allB (endsI l) 0 l.length with
          | false => rfl
          | true =>
            have := of_decide_eq_true (allB_true ha ((l.length : Int) - 1) (by omega) (by omega))
            omega
  · refine Ev.congr (f := fun _ => some false) (fun k => by rw [ferruleref13_Fits.f, if_neg h]) ?_
    have e : fits l = false := by unfold fits; rw [decide_eq_false h]; rfl
    rw [e]; exact Ev.now _

/-! ### Valid -/
theorem fits_parts {l : List R} (h : fits l = true) : (l.length : Int) ≤ 512 ∧ form l = true ∧ ∀ i, 0 ≤ i → i < (l.length : Int) → good1 (rd_T35 l i) ∧ (rd_T35 l i).f1 ≤ 512 ∧ (rd_T35 l i).f0 ≤ 512 - (rd_T35 l i).f1 := by
  unfold fits at h
  rw [Bool.and_eq_true, Bool.and_eq_true] at h
  obtain ⟨h1, h2, h3⟩ := h
  refine ⟨of_decide_eq_true h1, h2, fun i h0 hi => ⟨(form_at h2 h0 hi).1, ?_⟩⟩
  exact of_decide_eq_true (allB_true h3 i h0 (by omega))

theorem tdiv_of {a b : Int} (h : 0 ≤ a) : Int.tdiv a b = a / b := Int.tdiv_eq_ediv_of_nonneg h
theorem tmod_of {a b : Int} (h : 0 ≤ a) : Int.tmod a b = a % b := Int.tmod_eq_emod_of_nonneg h

/-- one run's pages counted, from page j on -/
def bump (pages ph : Int) (v : List Int) (j : Int) : Nat → List Int
  | 0 => v
  | d + 1 => bump pages ph (v.set ((ph + j) / pages).toNat (wrap64 (rd v ((ph + j) / pages) + 1))) (j + 1) d
theorem bump_length (pages ph : Int) (d : Nat) : ∀ (v : List Int) (j : Int), (bump pages ph v j d).length = v.length := by
  induction d with
  | zero => intro v j; rfl
  | succ d ih => intro v j; rw [bump, ih]; simp
theorem place {n pages ph j : Int} (hp : 1 ≤ pages) (hp2 : pages ≤ 32) (h0 : 0 ≤ ph) (hj : 0 ≤ j) (hin : ph + j < n * pages) (hn : n ≤ 64) :
    wrap64 (Int.tdiv (wrap64 (ph + j)) pages) = (ph + j) / pages ∧ 0 ≤ (ph + j) / pages ∧ (ph + j) / pages < n := by
  have hb : n * pages ≤ 64 * 32 := Int.le_trans (Int.mul_le_mul_of_nonneg_right hn (by omega)) (Int.mul_le_mul_of_nonneg_left hp2 (by omega))
  have e : wrap64 (ph + j) = ph + j := wr (by omega) (by omega)
  have h1 : 0 ≤ (ph + j) / pages := Int.ediv_nonneg (by omega) (by omega)
  have h2 : (ph + j) / pages < n := Int.ediv_lt_of_lt_mul (by omega) hin
  rw [e, tdiv_of (by omega)]
  exact ⟨wr (by omega) (by omega), h1, h2⟩

theorem bump_prog (n pages : Int) (l : List R) (x : R) (len i : Int) (hp : 1 ≤ pages) (hp2 : pages ≤ 32) (hn : n ≤ 64) (h0 : 0 ≤ x.f2) (hin : x.f2 + x.f1 ≤ n * pages) (hx : x.f1 ≤ 512)
    (r : List Int × Int) (d : Nat) : ∀ (v : List Int) (j : Int), (v.length : Int) = n → 0 ≤ j → x.f1 - j = d →
    Ev (fun k => blocks_Valid.l0 k n pages (bump pages x.f2 v j d) l len (wrap64 (i + 1))) r → Ev (fun k => blocks_Valid.l1 k n pages v l len i x.f1 j x.f0 x.f1 x.f2) r := by
  induction d with
  | zero =>
    intro v j hv hj hd h
    refine Ev.step (fun k => ?_) h
    simp only [blocks_Valid.l1, bump]
    rw [if_neg (by omega)]
  | succ d ih =>
    intro v j hv hj hd h
    obtain ⟨e, e0, e1⟩ := place hp hp2 h0 hj (show x.f2 + j < n * pages by omega) hn
    refine Ev.step (fun k => ?_) (ih (v.set ((x.f2 + j) / pages).toNat (wrap64 (rd v ((x.f2 + j) / pages) + 1))) (j + 1) (by simpa using hv) (by omega) (by omega) h)
    simp only [blocks_Valid.l1]
    rw [if_pos (by omega), if_neg (by omega), e, if_pos e0, if_pos (by omega), wr1 hj (show j < 513 by omega) (by omega)]

theorem bump_ref (n pages : Int) (l : List R) (i : Int) (hi0 : 0 ≤ i) (hi : i < (l.length : Int)) (hp : 1 ≤ pages) (hp2 : pages ≤ 32) (hn : n ≤ 64) (h0 : 0 ≤ (rd_T35 l i).f2) (hin : (rd_T35 l i).f2 + (rd_T35 l i).f1 ≤ n * pages) (hx : (rd_T35 l i).f1 ≤ 512)
    (r : List Int) (d : Nat) : ∀ (v : List Int) (j : Int), (v.length : Int) = n → 0 ≤ j → (rd_T35 l i).f1 - j = d →
    Ev (fun k => ferruleref13_Valid.l0 k l pages (bump pages (rd_T35 l i).f2 v j d) (wrap64 (i + 1))) r → Ev (fun k => ferruleref13_Valid.l1 k l pages v i j) r := by
  induction d with
  | zero =>
    intro v j hv hj hd h
    refine Ev.step (fun k => ?_) h
    simp only [ferruleref13_Valid.l1, bump]
    rw [if_pos hi0, if_pos hi, if_neg (by omega)]
  | succ d ih =>
    intro v j hv hj hd h
    obtain ⟨e, e0, e1⟩ := place hp hp2 h0 hj (show (rd_T35 l i).f2 + j < n * pages by omega) hn
    refine Ev.step (fun k => ?_) (ih (v.set (((rd_T35 l i).f2 + j) / pages).toNat (wrap64 (rd v (((rd_T35 l i).f2 + j) / pages) + 1))) (j + 1) (by simpa using hv) (by omega) (by omega) h)
    simp only [ferruleref13_Valid.l1]
    rw [if_pos hi0, if_pos hi, if_pos (by omega), if_neg (by omega), e, if_pos e0, if_pos (by omega), wr1 hj (show j < 513 by omega) (by omega)]

/-- all runs counted, from run i on -/
def count (pages : Int) (l : List R) (v : List Int) (i : Int) : Nat → List Int
  | 0 => v
  | d + 1 => count pages l (bump pages (rd_T35 l i).f2 v 0 (rd_T35 l i).f1.toNat) (i + 1) d
/-- run i lies inside -/
def insI (l : List R) (m : Int) (i : Int) : Bool := decide ((rd_T35 l i).f2 + (rd_T35 l i).f1 ≤ m)

theorem mul_le {n pages : Int} (h0 : 1 ≤ n) (hn : n ≤ 64) (hp : 1 ≤ pages) (hp2 : pages ≤ 32) : 1 ≤ n * pages ∧ n * pages ≤ 2048 := by
  have hb : n * pages ≤ 64 * 32 := Int.le_trans (Int.mul_le_mul_of_nonneg_right hn (by omega)) (Int.mul_le_mul_of_nonneg_left hp2 (by omega))
  have hc : 1 * 1 ≤ n * pages := Int.mul_le_mul h0 hp (by omega) (by omega)
  omega

theorem count_prog (n pages : Int) (l : List R) (h1 : 1 ≤ n) (hn : n ≤ 64) (hp : 1 ≤ pages) (hp2 : pages ≤ 32) (hf : fits l = true) (d : Nat) : ∀ (v : List Int) (i : Int), (v.length : Int) = n → 0 ≤ i → (l.length : Int) - i = d →
    Ev (fun k => blocks_Valid.l0 k n pages v l (l.length : Int) i) (if allB (insI l (n * pages)) i d = true then (count pages l v i d, 0) else ([], 1)) := by
  obtain ⟨hl, hform, hall⟩ := fits_parts hf
  obtain ⟨hm0, hm1⟩ := mul_le h1 hn hp hp2
  have hw : wrap64 (n * pages) = n * pages := wr (by omega) (by omega)
  induction d with
  | zero =>
    intro v i hv h0 hd
    refine Ev.step (fun k => ?_) (Ev.now _)
    simp only [blocks_Valid.l0, allB, count]
    rw [if_neg (by omega)]
    simp
  | succ d ih =>
    intro v i hv h0 hd
    have hi : i < (l.length : Int) := by omega
    obtain ⟨⟨a0, a1, a2, a3, a4, a5⟩, a6, a7⟩ := hall i h0 hi
    have hwi := wr1 h0 hi (by omega)
    have key : Ev (fun k => blocks_Valid.j2 k n pages v l (l.length : Int) i (!insI l (n * pages) i) (rd_T35 l i).f0 (rd_T35 l i).f1 (rd_T35 l i).f2) (if allB (insI l (n * pages)) i (d + 1) = true then (count pages l v i (d + 1), 0) else ([], 1)) := by
      cases hI : insI l (n * pages) i with
      | false =>
        simp only [allB, hI, Bool.false_and, Bool.false_eq_true, if_false]
        exact Ev.step (fun k => by simp only [blocks_Valid.j2, Bool.not_false, if_true]) (Ev.now _)
      | true =>
        simp only [allB, hI, Bool.true_and, count]
        refine Ev.step (f := fun k => blocks_Valid.l1 k n pages v l (l.length : Int) i (rd_T35 l i).f1 0 (rd_T35 l i).f0 (rd_T35 l i).f1 (rd_T35 l i).f2) (fun k => by simp only [blocks_Valid.j2, Bool.not_true, Bool.false_eq_true, if_false]) ?_
        refine bump_prog n pages l (rd_T35 l i) _ i hp hp2 hn a2 (of_decide_eq_true hI) a6 _ (rd_T35 l i).f1.toNat v 0 hv (by omega) (by omega) ?_
        rw [hwi]
        exact ih _ (i + 1) (by rw [bump_length]; exact hv) (by omega) (by omega)
    have hw2 : ∀ h : (rd_T35 l i).f2 < n * pages, wrap64 (n * pages - (rd_T35 l i).f2) = n * pages - (rd_T35 l i).f2 := fun h => wr (by omega) (by omega)
    refine Ev.step (fun k => ?_) key
    simp only [blocks_Valid.l0]
    rw [if_pos hi, if_pos h0, if_pos hi, hw]
    by_cases c : (rd_T35 l i).f2 ≥ n * pages
    · rw [if_pos c]
      have : insI l (n * pages) i = false := decide_eq_false (by omega)
      rw [this]; rfl
    · rw [if_neg c, hw2 (by omega)]
      have : (!insI l (n * pages) i) = decide ((rd_T35 l i).f1 > n * pages - (rd_T35 l i).f2) := by
        unfold insI
        by_cases c2 : (rd_T35 l i).f2 + (rd_T35 l i).f1 ≤ n * pages
        · rw [decide_eq_true c2, decide_eq_false (by omega)]; rfl
        · rw [decide_eq_false c2, decide_eq_true (by omega)]; rfl
      rw [this]

/-- what Valid tells -/
def validR (l : List R) (n pages : Int) : List Int × Int :=
  if 1 ≤ n ∧ n ≤ 64 ∧ 1 ≤ pages ∧ pages ≤ 32 ∧ fits l = true ∧ allB (insI l (n * pages)) 0 l.length = true then (count pages l (List.replicate n.toNat 0) 0 l.length, 0) else ([], 1)

theorem valid_ev (l : List R) (n pages : Int) (hl : (l.length : Int) ≤ 140737488351232) : Ev (fun k => blocks_Valid.f k l n pages) (validR l n pages) := by
  have out : ∀ (h : ¬ (1 ≤ n ∧ n ≤ 64 ∧ 1 ≤ pages ∧ pages ≤ 32 ∧ fits l = true ∧ allB (insI l (n * pages)) 0 l.length = true)), Ev (fun k => blocks_Valid.j0 k l n pages true) (validR l n pages) := by
    intro h
    unfold validR
    rw [if_neg h]
    exact Ev.step (fun k => by simp only [blocks_Valid.j0, if_true]) (Ev.now _)
  by_cases c1 : n < 1
  · exact Ev.congr (fun k => by rw [blocks_Valid.f, if_pos c1]) (out (by omega))
  by_cases c2 : n > 64
  · exact Ev.congr (fun k => by rw [blocks_Valid.f, if_neg c1, if_pos c2]) (out (by omega))
  by_cases c3 : pages < 1
  · exact Ev.congr (fun k => by rw [blocks_Valid.f, if_neg c1, if_neg c2, if_pos c3]) (out (by omega))
  by_cases c4 : pages > 32
  · exact Ev.congr (fun k => by rw [blocks_Valid.f, if_neg c1, if_neg c2, if_neg c3, if_pos c4]) (out (by omega))
  refine Ev.congr (f := fun k => (blocks_fits.f k l).bind fun t => blocks_Valid.j0 k l n pages (!t)) (fun k => by rw [blocks_Valid.f, if_neg c1, if_neg c2, if_neg c3, if_neg c4]) ?_
  refine Ev.bind (fits_ev l hl) ?_
  cases hf : fits l with
  | false => exact out (by rw [hf]; simp)
  | true =>
    refine Ev.step (f := fun k => blocks_Valid.l0 k n pages (List.replicate n.toNat 0) l (l.length : Int) 0) (fun k => ?_) ?_
    · simp only [blocks_Valid.j0, Bool.not_true, Bool.false_eq_true, if_false]
      rw [if_pos (by omega), if_pos (by omega)]
    · have := count_prog n pages l (by omega) (by omega) (by omega) (by omega) hf l.length (List.replicate n.toNat 0) 0 (by simp; omega) (by omega) (by omega)
      unfold validR
      rw [hf]
      by_cases ha : allB (insI l (n * pages)) 0 l.length = true
      · rw [if_pos ⟨by omega, by omega, by omega, by omega, rfl, ha⟩]
        rw [if_pos ha] at this
        exact this
      · rw [if_neg (fun h => ha h.2.2.2.2.2)]
        rw [if_neg ha] at this
        exact this

theorem ref_valid_loop (n pages : Int) (l : List R) (h1 : 1 ≤ n) (hn : n ≤ 64) (hp : 1 ≤ pages) (hp2 : pages ≤ 32) (hf : fits l = true) (hins : allB (insI l (n * pages)) 0 l.length = true) (d : Nat) : ∀ (v : List Int) (i : Int), (v.length : Int) = n → 0 ≤ i → (l.length : Int) - i = d →
    Ev (fun k => ferruleref13_Valid.l0 k l pages v i) (count pages l v i d) := by
  obtain ⟨hl, hform, hall⟩ := fits_parts hf
  induction d with
  | zero =>
    intro v i hv h0 hd
    refine Ev.step (fun k => ?_) (Ev.now _)
    simp only [ferruleref13_Valid.l0, count]
    rw [if_neg (by omega)]
  | succ d ih =>
    intro v i hv h0 hd
    have hi : i < (l.length : Int) := by omega
    obtain ⟨⟨a0, a1, a2, a3, a4, a5⟩, a6, a7⟩ := hall i h0 hi
    have hwi := wr1 h0 hi (by omega)
    refine Ev.step (f := fun k => ferruleref13_Valid.l1 k l pages v i 0) (fun k => by simp only [ferruleref13_Valid.l0]; rw [if_pos hi]) ?_
    refine bump_ref n pages l i h0 hi hp hp2 hn a2 (of_decide_eq_true (allB_true hins i h0 (by omega))) a6 _ (rd_T35 l i).f1.toNat v 0 hv (by omega) (by omega) ?_
    rw [hwi]
    exact ih _ (i + 1) (by rw [bump_length]; exact hv) (by omega) (by omega)

theorem ref_valid_ev (n pages : Int) (l : List R) (h1 : 1 ≤ n) (hn : n ≤ 64) (hp : 1 ≤ pages) (hp2 : pages ≤ 32) (hf : fits l = true) (hins : allB (insI l (n * pages)) 0 l.length = true) :
    Ev (fun k => ferruleref13_Valid.f k l n pages) (count pages l (List.replicate n.toNat 0) 0 l.length) :=
  Ev.congr (fun k => by rw [ferruleref13_Valid.f, if_pos (by omega), if_pos (by omega)]) (ref_valid_loop n pages l h1 hn hp hp2 hf hins l.length _ 0 (by simp; omega) (by omega) (by omega))

/-! ### Inside -/
theorem inside_loop (l : List R) (m : Int) (hm0 : 0 ≤ m) (hm : m ≤ 1073741824) (hl : (l.length : Int) ≤ 512) (hall : ∀ i, 0 ≤ i → i < (l.length : Int) → good1 (rd_T35 l i)) (d : Nat) : ∀ (i : Int), 0 ≤ i → (l.length : Int) - i = d →
    Ev (fun k => ferruleref13_Inside.l0 k l m i) (allB (insI l m) i d) := by
  induction d with
  | zero =>
    intro i h0 hd
    refine Ev.step (fun k => ?_) (Ev.now _)
    simp only [ferruleref13_Inside.l0, allB]
    rw [if_neg (by omega)]
  | succ d ih =>
    intro i h0 hd
    have hi : i < (l.length : Int) := by omega
    obtain ⟨a0, a1, a2, a3, a4, a5⟩ := hall i h0 hi
    have hwi := wr1 h0 hi (by omega)
    have e : wrap64 (m - (rd_T35 l i).f2) = m - (rd_T35 l i).f2 := wr (by omega) (by omega)
    by_cases c : (rd_T35 l i).f2 > m
    · refine Ev.step (f := fun _ => some false) (fun k => by simp only [ferruleref13_Inside.l0]; rw [if_pos hi, if_pos h0, if_pos c]) ?_
      rw [show allB (insI l m) i (d + 1) = false by simp only [allB]; rw [show insI l m i = false from decide_eq_false (by omega)]; rfl]
      exact Ev.now _
    · by_cases c2 : (rd_T35 l i).f1 > m - (rd_T35 l i).f2
      · refine Ev.step (f := fun _ => some false) (fun k => by simp only [ferruleref13_Inside.l0]; rw [if_pos hi, if_pos h0, if_neg c, e, if_pos c2]) ?_
        rw [show allB (insI l m) i (d + 1) = false by simp only [allB]; rw [show insI l m i = false from decide_eq_false (by omega)]; rfl]
        exact Ev.now _
      · refine Ev.step (f := fun k => ferruleref13_Inside.l0 k l m (i + 1)) (fun k => by simp only [ferruleref13_Inside.l0]; rw [if_pos hi, if_pos h0, if_neg c, e, if_neg c2, hwi]) ?_
        rw [show allB (insI l m) i (d + 1) = allB (insI l m) (i + 1) d by simp only [allB]; rw [show insI l m i = true from decide_eq_true (by omega)]; rfl]
        exact ih (i + 1) (by omega) (by omega)
theorem inside_ev (l : List R) (m : Int) (hm0 : 0 ≤ m) (hm : m ≤ 1073741824) (hf : fits l = true) : Ev (fun k => ferruleref13_Inside.f k l m) (allB (insI l m) 0 l.length) :=
  Ev.congr (fun k => by rw [ferruleref13_Inside.f]) (inside_loop l m hm0 hm (fits_parts hf).1 (fun i h0 hi => ((fits_parts hf).2.2 i h0 hi).1) l.length 0 (by omega) (by omega))

/-! ### Equal lists -/
theorem rd_eq_of {a b : List Int} (hl : a.length = b.length) (h : ∀ i : Int, 0 ≤ i → i < (a.length : Int) → rd a i = rd b i) : a = b := by
  apply List.ext_getElem hl
  intro i h1 h2
  have := h (i : Int) (by omega) (by omega)
  simpa [rd, h1, h2] using this
theorem ints_loop (a : List Int) (hl : (a.length : Int) ≤ 140737488351232) (d : Nat) : ∀ (i : Int), 0 ≤ i → (a.length : Int) - i = d → Ev (fun k => ferrulelaw13_ints.l0 k a a i) true := by
  induction d with
  | zero => intro i h0 hd; exact Ev.step (fun k => by simp only [ferrulelaw13_ints.l0]; rw [if_neg (by omega)]) (Ev.now _)
  | succ d ih =>
    intro i h0 hd
    have hi : i < (a.length : Int) := by omega
    refine Ev.step (fun k => ?_) (ih (i + 1) (by omega) (by omega))
    simp only [ferrulelaw13_ints.l0]
    rw [if_pos hi, if_pos h0, if_pos hi, wr1 h0 hi hl]
    simp
theorem ints_ev (a : List Int) (hl : (a.length : Int) ≤ 140737488351232) : Ev (fun k => ferrulelaw13_ints.f k a a) true :=
  Ev.congr (fun k => by rw [ferrulelaw13_ints.f, if_pos rfl]) (ints_loop a hl a.length 0 (by omega) (by omega))
theorem same_loop (a : List R) (hl : (a.length : Int) ≤ 140737488351232) (d : Nat) : ∀ (i : Int), 0 ≤ i → (a.length : Int) - i = d → Ev (fun k => ferruleref9_Same.l0 k a a i) true := by
  induction d with
  | zero => intro i h0 hd; exact Ev.step (fun k => by simp only [ferruleref9_Same.l0]; rw [if_neg (by omega)]) (Ev.now _)
  | succ d ih =>
    intro i h0 hd
    have hi : i < (a.length : Int) := by omega
    refine Ev.step (fun k => ?_) (ih (i + 1) (by omega) (by omega))
    simp only [ferruleref9_Same.l0]
    rw [if_pos hi, if_pos h0, if_pos hi, wr1 h0 hi hl]
    simp
theorem same_ev (a : List R) (hl : (a.length : Int) ≤ 140737488351232) : Ev (fun k => ferruleref9_Same.f k a a) true :=
  Ev.congr (fun k => by rw [ferruleref9_Same.f, if_pos rfl]) (same_loop a hl a.length 0 (by omega) (by omega))

/-! ### Split -/
def rn (a b c : Int) : R := ⟨a, b, c⟩
/-- a run cut where blocks end; fuel: its length -/
def cuts (pages : Int) : Nat → Int → Int → Int → List R
  | 0, _, _, _ => []
  | d + 1, lba, len, ph => if len ≤ 0 then [] else rn lba (min len (pages - ph % pages)) ph :: cuts pages d (lba + min len (pages - ph % pages)) (len - min len (pages - ph % pages)) (ph + min len (pages - ph % pages))
theorem cuts_more (pages : Int) (hp : 1 ≤ pages) (d : Nat) : ∀ (e : Nat) (lba len ph : Int), len ≤ d → d ≤ e → cuts pages e lba len ph = cuts pages d lba len ph := by
  induction d with
  | zero =>
    intro e lba len ph h1 h2
    cases e with
    | zero => rfl
    | succ e => simp only [cuts]; rw [if_pos (by omega)]
  | succ d ih =>
    intro e lba len ph h1 h2
    obtain ⟨e, rfl⟩ : ∃ q, e = q + 1 := ⟨e - 1, by omega⟩
    rw [cuts, cuts]
    by_cases c : len ≤ 0
    · rw [if_pos c, if_pos c]
    · rw [if_neg c, if_neg c]
      have hm : 0 ≤ ph % pages ∧ ph % pages < pages := ⟨Int.emod_nonneg _ (by omega), Int.emod_lt_of_pos _ (by omega)⟩
      rw [ih e _ _ _ (by omega) (by omega)]
/-- .. page by page: the part at hand, and the pages left -/
def grow (pages : Int) (a c b : Int) : Nat → List R
  | 0 => [rn a c b]
  | d + 1 => if (b + c) % pages = 0 then rn a c b :: grow pages (a + c) 1 (b + c) d else grow pages a (c + 1) b d
theorem grow_to (pages : Int) (hp : 1 ≤ pages) (a b : Int) (hb : 0 ≤ b) (m : Nat) : ∀ (c : Int) (d : Nat), 1 ≤ c → c + m ≤ pages - b % pages → grow pages a c b (m + d) = grow pages a (c + m) b d := by
  induction m with
  | zero => intro c d _ _; simp
  | succ m ih =>
    intro c d h1 h2
    rw [show m + 1 + d = (m + d) + 1 by omega, grow]
    have hm : 0 ≤ b % pages ∧ b % pages < pages := ⟨Int.emod_nonneg _ (by omega), Int.emod_lt_of_pos _ (by omega)⟩
    have hne : ¬ (b + c) % pages = 0 := by
      have e : (b + c) % pages = b % pages + c := by
        rw [Int.add_emod, Int.emod_eq_of_lt (show 0 ≤ c by omega) (by omega), Int.emod_eq_of_lt (by omega) (by omega)]
      omega
    rw [if_neg hne, ih (c + 1) d (by omega) (by omega)]
    congr 1; omega
theorem grow_cuts (pages : Int) (hp : 1 ≤ pages) (n : Nat) : ∀ (d : Nat) (a b : Int), d ≤ n → 0 ≤ b → grow pages a 1 b d = cuts pages (d + 1) a ((d : Int) + 1) b := by
  induction n with
  | zero =>
    intro d a b hd hb
    obtain rfl : d = 0 := by omega
    have hm : 0 ≤ b % pages ∧ b % pages < pages := ⟨Int.emod_nonneg _ (by omega), Int.emod_lt_of_pos _ (by omega)⟩
    have e : min (((0 : Nat) : Int) + 1) (pages - b % pages) = 1 := by omega
    rw [cuts, if_neg (by omega), e]
    rfl
  | succ n ih =>
    intro d a b hd hb
    have hm : 0 ≤ b % pages ∧ b % pages < pages := ⟨Int.emod_nonneg _ (by omega), Int.emod_lt_of_pos _ (by omega)⟩
    rw [cuts, if_neg (by omega)]
    by_cases c : (d : Int) + 1 ≤ pages - b % pages
    · have e : min ((d : Int) + 1) (pages - b % pages) = (d : Int) + 1 := by omega
      rw [e]
      have g := grow_to pages hp a b hb d 1 0 (by omega) (by omega)
      rw [Nat.add_zero] at g
      rw [g, grow, show (1 : Int) + d = d + 1 by omega, show (d : Int) + 1 - (d + 1) = 0 by omega]
      congr 1
      cases d with
      | zero => rfl
      | succ d => rw [cuts, if_pos (by omega)]
    · have e : min ((d : Int) + 1) (pages - b % pages) = pages - b % pages := by omega
      rw [e]
      generalize hq : pages - b % pages = q at *
      obtain ⟨m, hm2⟩ : ∃ m : Nat, (m : Int) = q - 1 := ⟨(q - 1).toNat, by omega⟩
      obtain ⟨r, hr⟩ : ∃ r : Nat, d = m + (r + 1) := ⟨d - m - 1, by omega⟩
      have g := grow_to pages hp a b hb m 1 (r + 1) (by omega) (by omega)
      rw [hr, g, show (1 : Int) + m = q by omega, grow]
      have hz : (b + q) % pages = 0 := by
        have h1 : b + q = pages * (b / pages + 1) := by
          have := Int.mul_ediv_add_emod b pages
          rw [Int.mul_add]; omega
        rw [h1, Int.mul_emod_right]
      rw [if_pos hz, ih r (a + q) (b + q) (by omega) (by omega)]
      congr 1
      rw [← cuts_more pages hp (r + 1) (m + (r + 1)) (a + q) _ (b + q) (by omega) (by omega)]
      congr 1
      omega

theorem cuts_len (pages : Int) (hp : 1 ≤ pages) (d : Nat) : ∀ (lba len ph : Int), ((cuts pages d lba len ph).length : Int) ≤ d := by
  induction d with
  | zero => intro _ _ _; simp [cuts]
  | succ d ih =>
    intro lba len ph
    rw [cuts]
    split
    · simp; omega
    · have := ih (lba + min len (pages - ph % pages)) (len - min len (pages - ph % pages)) (ph + min len (pages - ph % pages))
      simp only [List.length_cons]; omega

theorem split_one (pages : Int) (hp : 1 ≤ pages) (hp2 : pages ≤ 32) (l : List R) (len i : Int) (r : List R × Int) (d : Nat) : ∀ (out : List R) (a c b : Int), c ≤ d → 0 ≤ a → a ≤ 1048576 → 0 ≤ c → c ≤ 512 → 0 ≤ b → a + c ≤ 1048576 → b + c ≤ 1073741824 → (out.length : Int) + d ≤ 1000000000 →
    Ev (fun k => blocks_Split.l1 k pages (out ++ cuts pages d a c b) l len (wrap64 (i + 1))) r → Ev (fun k => blocks_Split.l2 k pages out l len i a c b) r := by
  induction d with
  | zero =>
    intro out a c b hd ha ha2 hc hc2 hb h1 h2 ho h
    refine Ev.step (fun k => ?_) h
    simp only [blocks_Split.l2, cuts]
    rw [if_neg (by omega), List.append_nil]
  | succ d ih =>
    intro out a c b hd ha ha2 hc hc2 hb h1 h2 ho h
    by_cases hc0 : c ≤ 0
    · refine Ev.step (fun k => ?_) h
      simp only [blocks_Split.l2, cuts]
      rw [if_neg (by omega), if_pos hc0, List.append_nil]
    · have hm : 0 ≤ b % pages ∧ b % pages < pages := ⟨Int.emod_nonneg _ (by omega), Int.emod_lt_of_pos _ (by omega)⟩
      have ew : mn c (wrap64 (pages - Int.tmod b pages)) = min c (pages - b % pages) := by
        rw [tmod_of hb, wr (show -9223372036854775808 ≤ pages - b % pages by omega) (by omega)]
        unfold mn; omega
      rw [cuts, if_neg hc0] at h
      generalize hq : min c (pages - b % pages) = q at h
      have hq1 : 1 ≤ q ∧ q ≤ c := by omega
      have h' := ih (out ++ [rn a q b]) (a + q) (c - q) (b + q) (by omega) (by omega) (by omega) (by omega) (by omega) (by omega) (by omega) (by omega) (by simp; omega) (by simpa using h)
      refine Ev.step (fun k => ?_) h'
      simp only [blocks_Split.l2]
      rw [if_pos (by omega), if_neg (by omega), if_pos (by omega), ew, hq, wr (show -9223372036854775808 ≤ a + q by omega) (by omega), wr (show -9223372036854775808 ≤ c - q by omega) (by omega), wr (show -9223372036854775808 ≤ b + q by omega) (by omega)]
      rfl

/-- what Split tells -/
def split (pages : Int) (l : List R) (i : Int) : Nat → List R
  | 0 => []
  | d + 1 => cuts pages (rd_T35 l i).f1.toNat (rd_T35 l i).f0 (rd_T35 l i).f1 (rd_T35 l i).f2 ++ split pages l (i + 1) d
def lowI (l : List R) (i : Int) : Bool := decide ((rd_T35 l i).f2 ≤ 1048576)

theorem split_len (pages : Int) (hp : 1 ≤ pages) (l : List R) (hall : ∀ i, 0 ≤ i → i < (l.length : Int) → (rd_T35 l i).f1 ≤ 512) (d : Nat) : ∀ (i : Int), 0 ≤ i → (l.length : Int) - i = d → ((split pages l i d).length : Int) ≤ 512 * d := by
  induction d with
  | zero => intro i _ _; simp [split]
  | succ d ih =>
    intro i h0 hd
    rw [split, List.length_append]
    have h1 := cuts_len pages hp (rd_T35 l i).f1.toNat (rd_T35 l i).f0 (rd_T35 l i).f1 (rd_T35 l i).f2
    have h2 := ih (i + 1) (by omega) (by omega)
    have h3 := hall i h0 (by omega)
    omega

theorem split_loop (pages : Int) (hp : 1 ≤ pages) (hp2 : pages ≤ 32) (l : List R) (hf : fits l = true) (hlow : allB (lowI l) 0 l.length = true) (d : Nat) : ∀ (out : List R) (i : Int), 0 ≤ i → (l.length : Int) - i = d → (out.length : Int) ≤ 512 * i →
    Ev (fun k => blocks_Split.l1 k pages out l (l.length : Int) i) (out ++ split pages l i d, 0) := by
  obtain ⟨hl, hform, hall⟩ := fits_parts hf
  induction d with
  | zero =>
    intro out i h0 hd ho
    refine Ev.step (fun k => ?_) (Ev.now _)
    simp only [blocks_Split.l1, split]
    rw [if_neg (by omega), List.append_nil]
  | succ d ih =>
    intro out i h0 hd ho
    have hi : i < (l.length : Int) := by omega
    obtain ⟨⟨a0, a1, a2, a3, a4, a5⟩, a6, a7⟩ := hall i h0 hi
    have hlo : (rd_T35 l i).f2 ≤ 1048576 := of_decide_eq_true (allB_true hlow i h0 (by omega))
    refine Ev.step (f := fun k => blocks_Split.l2 k pages out l (l.length : Int) i (rd_T35 l i).f0 (rd_T35 l i).f1 (rd_T35 l i).f2) (fun k => by simp only [blocks_Split.l1]; rw [if_pos hi, if_pos h0, if_pos hi]) ?_
    refine split_one pages hp hp2 l _ i _ (rd_T35 l i).f1.toNat out _ _ _ (by omega) a0 (by omega) (by omega) a6 a2 (by omega) (by omega) (by omega) ?_
    rw [wr1 h0 hi (by omega), split, ← List.append_assoc]
    have hc := cuts_len pages hp (rd_T35 l i).f1.toNat (rd_T35 l i).f0 (rd_T35 l i).f1 (rd_T35 l i).f2
    exact ih _ (i + 1) (by omega) (by omega) (by rw [List.length_append]; omega)

theorem low_loop (pages : Int) (l : List R) (hl : (l.length : Int) ≤ 512) (r : List R × Int) (d : Nat) : ∀ (i : Int), 0 ≤ i → (l.length : Int) - i = d →
    (allB (lowI l) i d = true → Ev (fun k => blocks_Split.l1 k pages [] l (l.length : Int) 0) r) → (allB (lowI l) i d = false → r = ([], 1)) →
    Ev (fun k => blocks_Split.l0 k l pages l (l.length : Int) i) r := by
  induction d with
  | zero =>
    intro i h0 hd h1 h2
    refine Ev.step (fun k => ?_) (h1 rfl)
    simp only [blocks_Split.l0]
    rw [if_neg (by omega)]
  | succ d ih =>
    intro i h0 hd h1 h2
    have hi : i < (l.length : Int) := by omega
    by_cases c : (rd_T35 l i).f2 > 1048576
    · have e : allB (lowI l) i (d + 1) = false := by simp only [allB]; rw [show lowI l i = false from decide_eq_false (by omega)]; rfl
      rw [h2 e]
      exact Ev.step (fun k => by simp only [blocks_Split.l0]; rw [if_pos hi, if_pos h0, if_pos hi, if_pos c]) (Ev.now _)
    · have e : allB (lowI l) i (d + 1) = allB (lowI l) (i + 1) d := by simp only [allB]; rw [show lowI l i = true from decide_eq_true (by omega)]; rfl
      rw [e] at h1 h2
      exact Ev.step (fun k => by simp only [blocks_Split.l0]; rw [if_pos hi, if_pos h0, if_pos hi, if_neg c, wr1 h0 hi (by omega)]) (ih (i + 1) (by omega) (by omega) h1 h2)

def splitOk (l : List R) (pages : Int) : Prop := 1 ≤ pages ∧ pages ≤ 32 ∧ fits l = true ∧ allB (lowI l) 0 l.length = true
instance (l : List R) (pages : Int) : Decidable (splitOk l pages) := by unfold splitOk; exact inferInstance
def splitR (l : List R) (pages : Int) : List R × Int := if splitOk l pages then (split pages l 0 l.length, 0) else ([], 1)

theorem split_ev (l : List R) (pages : Int) (hl : (l.length : Int) ≤ 140737488351232) : Ev (fun k => blocks_Split.f k l pages) (splitR l pages) := by
  have out : ∀ (h : ¬ splitOk l pages), Ev (fun k => blocks_Split.j0 k l pages true) (splitR l pages) := by
    intro h
    unfold splitR
    rw [if_neg h]
    exact Ev.step (fun k => by simp only [blocks_Split.j0, if_true]) (Ev.now _)
  by_cases c3 : pages < 1
  · exact Ev.congr (fun k => by rw [blocks_Split.f, if_pos c3]) (out (fun h => by have := h.1; omega))
  by_cases c4 : pages > 32
  · exact Ev.congr (fun k => by rw [blocks_Split.f, if_neg c3, if_pos c4]) (out (fun h => by have := h.2.1; omega))
  refine Ev.congr (f := fun k => (blocks_fits.f k l).bind fun t => blocks_Split.j0 k l pages (!t)) (fun k => by rw [blocks_Split.f, if_neg c3, if_neg c4]) ?_
  refine Ev.bind (fits_ev l hl) ?_
  cases hf : fits l with
  | false => exact out (fun h => by have := h.2.2.1; rw [hf] at this; cases this)
  | true =>
    refine Ev.step (f := fun k => blocks_Split.l0 k l pages l (l.length : Int) 0) (fun k => by simp only [blocks_Split.j0, Bool.not_true, Bool.false_eq_true, if_false]) ?_
    refine low_loop pages l (fits_parts hf).1 _ l.length 0 (by omega) (by omega) (fun ha => ?_) (fun ha => ?_)
    · have := split_loop pages (by omega) (by omega) l hf ha l.length [] 0 (by omega) (by omega) (by simp)
      unfold splitR
      rw [if_pos ⟨by omega, by omega, hf, ha⟩]
      simpa using this
    · unfold splitR
      rw [if_neg (fun h => by have := h.2.2.2; rw [ha] at this; cases this)]

/-! ### The reference's Split: page by page -/
theorem rd_last (o : List R) (x : R) (n : Int) (hn : n = o.length) : rd_T35 (o ++ [x]) n = x := by
  subst hn
  simp [rd_T35]
theorem set_last (o : List R) (x y : R) (n : Int) (hn : n = o.length) : (o ++ [x]).set n.toNat y = o ++ [y] := by
  subst hn
  simp

theorem ref_run (pages : Int) (hp : 1 ≤ pages) (hp2 : pages ≤ 32) (l : List R) (i : Int) (hi0 : 0 ≤ i) (hi : i < (l.length : Int)) (h0 : 0 ≤ (rd_T35 l i).f0) (h1 : (rd_T35 l i).f1 ≤ 512) (h2 : (rd_T35 l i).f0 ≤ 1048576) (h3 : 0 ≤ (rd_T35 l i).f2) (h4 : (rd_T35 l i).f2 ≤ 1048576)
    (r : List R) (d : Nat) : ∀ (o : List R) (a c b j : Int), 1 ≤ j → (rd_T35 l i).f1 - j = d → 1 ≤ c → c ≤ j → a + c = (rd_T35 l i).f0 + j → b + c = (rd_T35 l i).f2 + j → 0 ≤ b → (o.length : Int) + d ≤ 1000000000 →
    Ev (fun k => ferruleref13_Split.l0 k l pages (o ++ grow pages a c b d) (wrap64 (i + 1))) r → Ev (fun k => ferruleref13_Split.l1 k l pages (o ++ [rn a c b]) i j) r := by
  induction d with
  | zero =>
    intro o a c b j hj hd hc hcj ea eb hb ho h
    refine Ev.step (fun k => ?_) h
    simp only [ferruleref13_Split.l1, grow]
    rw [if_pos hi0, if_pos hi, if_neg (by omega)]
  | succ d ih =>
    intro o a c b j hj hd hc hcj ea eb hb ho h
    have ew : wrap64 ((rd_T35 l i).f2 + j) = b + c := by rw [wr (by omega) (by omega)]; omega
    have ew2 : wrap64 ((rd_T35 l i).f0 + j) = a + c := by rw [wr (by omega) (by omega)]; omega
    have ej : wrap64 (j + 1) = j + 1 := wr (by omega) (by omega)
    by_cases hz : (b + c) % pages = 0
    · simp only [grow] at h
      rw [if_pos hz] at h
      have h' := ih (o ++ [rn a c b]) (a + c) 1 (b + c) (j + 1) (by omega) (by omega) (by omega) (by omega) (by omega) (by omega) (by omega) (by simp <;> omega) (by simpa using h)
      refine Ev.step (fun k => ?_) h'
      simp only [ferruleref13_Split.l1]
      have hl1 : ((o ++ [rn a c b]).length : Int) = o.length + 1 := by simp
      rw [if_pos hi0, if_pos hi, if_pos (by omega), if_neg (by omega), if_neg (by omega), ew, tmod_of (by omega), if_pos hz, if_pos (by omega), ew2]
      simp only [Option.bind_some]
      have hl2 : ((o ++ [rn a c b] ++ [(⟨a + c, 0, b + c⟩ : R)]).length : Int) = o.length + 2 := by simp <;> omega
      have ew3 : wrap64 (((o ++ [rn a c b] ++ [(⟨a + c, 0, b + c⟩ : R)]).length : Int) - 1) = ((o ++ [rn a c b]).length : Int) := by rw [hl2, hl1, wr (by omega) (by omega)]; omega
      rw [ew3, if_pos (by omega), if_pos (by omega), rd_last _ _ _ rfl, set_last _ _ _ _ rfl, ej]
      show ferruleref13_Split.l1 k l pages (o ++ [rn a c b] ++ [(⟨a + c, wrap64 (0 + 1), b + c⟩ : R)]) i (j + 1) = _
      rw [show wrap64 (0 + 1) = 1 by unfold wrap64; omega]
      rfl
    · simp only [grow] at h
      rw [if_neg hz] at h
      have h' := ih o a (c + 1) b (j + 1) (by omega) (by omega) (by omega) (by omega) (by omega) (by omega) (by omega) (by omega) h
      refine Ev.step (fun k => ?_) h'
      simp only [ferruleref13_Split.l1]
      have hl1 : ((o ++ [rn a c b]).length : Int) = o.length + 1 := by simp
      have ew3 : wrap64 (((o ++ [rn a c b]).length : Int) - 1) = (o.length : Int) := by rw [hl1, wr (by omega) (by omega)]; omega
      rw [if_pos hi0, if_pos hi, if_pos (by omega), if_neg (by omega), if_neg (by omega), ew, tmod_of (by omega), if_neg hz, ew3, if_pos (by omega), if_pos (by omega), rd_last _ _ _ rfl, set_last _ _ _ _ rfl, ej]
      have e9 : wrap64 ((rn a c b).f1 + 1) = c + 1 := by show wrap64 (c + 1) = _; rw [wr (by omega) (by omega)]
      rw [e9]
      rfl

theorem ref_run0 (pages : Int) (hp : 1 ≤ pages) (hp2 : pages ≤ 32) (l : List R) (i : Int) (hi0 : 0 ≤ i) (hi : i < (l.length : Int)) (h0 : 0 ≤ (rd_T35 l i).f0) (h1 : (rd_T35 l i).f1 ≤ 512) (h1' : 1 ≤ (rd_T35 l i).f1) (h2 : (rd_T35 l i).f0 ≤ 1048576) (h3 : 0 ≤ (rd_T35 l i).f2) (h4 : (rd_T35 l i).f2 ≤ 1048576)
    (r : List R) (o : List R) (ho : (o.length : Int) ≤ 900000000)
    (h : Ev (fun k => ferruleref13_Split.l0 k l pages (o ++ cuts pages (rd_T35 l i).f1.toNat (rd_T35 l i).f0 (rd_T35 l i).f1 (rd_T35 l i).f2) (wrap64 (i + 1))) r) : Ev (fun k => ferruleref13_Split.l1 k l pages o i 0) r := by
  obtain ⟨d, hd⟩ : ∃ d : Nat, (rd_T35 l i).f1 = d + 1 := ⟨(rd_T35 l i).f1.toNat - 1, by omega⟩
  have hg := grow_cuts pages hp d d (rd_T35 l i).f0 (rd_T35 l i).f2 (by omega) h3
  have e : (rd_T35 l i).f1.toNat = d + 1 := by omega
  rw [e] at h
  have e2 : cuts pages (d + 1) (rd_T35 l i).f0 (rd_T35 l i).f1 (rd_T35 l i).f2 = grow pages (rd_T35 l i).f0 1 (rd_T35 l i).f2 d := by rw [hg, hd]
  rw [e2] at h
  have h' := ref_run pages hp hp2 l i hi0 hi h0 h1 h2 h3 h4 r d o (rd_T35 l i).f0 1 (rd_T35 l i).f2 1 (by omega) (by omega) (by omega) (by omega) rfl rfl h3 (by omega) h
  refine Ev.step (fun k => ?_) h'
  simp only [ferruleref13_Split.l1]
  have z0 : wrap64 ((rd_T35 l i).f0 + 0) = (rd_T35 l i).f0 := by rw [wr (by omega) (by omega)]; omega
  have z2 : wrap64 ((rd_T35 l i).f2 + 0) = (rd_T35 l i).f2 := by rw [wr (by omega) (by omega)]; omega
  rw [if_pos hi0, if_pos hi, if_pos (by omega), if_pos trivial, if_pos (by omega), z0, z2]
  simp only [Option.bind_some]
  have hl2 : ((o ++ [(⟨(rd_T35 l i).f0, 0, (rd_T35 l i).f2⟩ : R)]).length : Int) = o.length + 1 := by simp
  have ew3 : wrap64 (((o ++ [(⟨(rd_T35 l i).f0, 0, (rd_T35 l i).f2⟩ : R)]).length : Int) - 1) = (o.length : Int) := by rw [hl2, wr (by omega) (by omega)]; omega
  rw [ew3, if_pos (by omega), if_pos (by omega), rd_last _ _ _ rfl, set_last _ _ _ _ rfl]
  show ferruleref13_Split.l1 k l pages (o ++ [(⟨(rd_T35 l i).f0, wrap64 (0 + 1), (rd_T35 l i).f2⟩ : R)]) i (wrap64 (0 + 1)) = _
  rw [show wrap64 (0 + 1) = 1 by unfold wrap64; omega]
  rfl

theorem ref_split_loop (pages : Int) (hp : 1 ≤ pages) (hp2 : pages ≤ 32) (l : List R) (hf : fits l = true) (hlow : allB (lowI l) 0 l.length = true) (d : Nat) : ∀ (out : List R) (i : Int), 0 ≤ i → (l.length : Int) - i = d → (out.length : Int) ≤ 512 * i →
    Ev (fun k => ferruleref13_Split.l0 k l pages out i) (out ++ split pages l i d) := by
  obtain ⟨hl, hform, hall⟩ := fits_parts hf
  induction d with
  | zero =>
    intro out i h0 hd ho
    refine Ev.step (fun k => ?_) (Ev.now _)
    simp only [ferruleref13_Split.l0, split]
    rw [if_neg (by omega), List.append_nil]
  | succ d ih =>
    intro out i h0 hd ho
    have hi : i < (l.length : Int) := by omega
    obtain ⟨⟨a0, a1, a2, a3, a4, a5⟩, a6, a7⟩ := hall i h0 hi
    have hlo : (rd_T35 l i).f2 ≤ 1048576 := of_decide_eq_true (allB_true hlow i h0 (by omega))
    refine Ev.step (f := fun k => ferruleref13_Split.l1 k l pages out i 0) (fun k => by simp only [ferruleref13_Split.l0]; rw [if_pos hi]) ?_
    refine ref_run0 pages hp hp2 l i h0 hi a0 a6 a4 (by omega) a2 hlo _ out (by omega) ?_
    rw [wr1 h0 hi (by omega), split, ← List.append_assoc]
    have hc := cuts_len pages hp (rd_T35 l i).f1.toNat (rd_T35 l i).f0 (rd_T35 l i).f1 (rd_T35 l i).f2
    exact ih _ (i + 1) (by omega) (by omega) (by rw [List.length_append]; omega)

theorem ref_split_ev (l : List R) (pages : Int) (h : splitOk l pages) : Ev (fun k => ferruleref13_Split.f k l pages) (split pages l 0 l.length) := by
  obtain ⟨hp, hp2, hf, hlow⟩ := h
  have := ref_split_loop pages hp hp2 l hf hlow l.length [] 0 (by omega) (by omega) (by simp)
  exact Ev.congr (fun k => by rw [ferruleref13_Split.f, if_pos (by omega)]) (by simpa using this)

/-! ### Moves -/
def inB (pages block : Int) (x : R) : Bool := decide (wrap64 (Int.tdiv x.f2 pages) = block)
/-- those in a block, from part i on -/
def mov (pages block : Int) (s : List R) (i : Int) : Nat → List R
  | 0 => []
  | d + 1 => (if wrap64 (Int.tdiv (rd_T35 s i).f2 pages) = block then [rn (rd_T35 s i).f0 (rd_T35 s i).f1 (rd_T35 s i).f2] else []) ++ mov pages block s (i + 1) d
theorem moves_loop (pages block : Int) (hp : 1 ≤ pages) (s : List R) (hl : (s.length : Int) ≤ 1000000000) (d : Nat) : ∀ (out : List R) (i : Int), 0 ≤ i → (s.length : Int) - i = d → (out.length : Int) ≤ i →
    Ev (fun k => blocks_Moves.l0 k block pages out s (s.length : Int) i) (out ++ mov pages block s i d, 0) := by
  induction d with
  | zero =>
    intro out i h0 hd ho
    refine Ev.step (fun k => ?_) (Ev.now _)
    simp only [blocks_Moves.l0, mov]
    rw [if_neg (by omega), List.append_nil]
  | succ d ih =>
    intro out i h0 hd ho
    have hi : i < (s.length : Int) := by omega
    by_cases c : wrap64 (Int.tdiv (rd_T35 s i).f2 pages) = block
    · have h := ih (out ++ [rn (rd_T35 s i).f0 (rd_T35 s i).f1 (rd_T35 s i).f2]) (i + 1) (by omega) (by omega) (by simp <;> omega)
      rw [mov, if_pos c, ← List.append_assoc]
      refine Ev.step (fun k => ?_) h
      simp only [blocks_Moves.l0]
      rw [if_pos hi, if_pos h0, if_pos hi, if_neg (by omega), if_pos c, if_pos (by omega), wr1 h0 hi (by omega)]
      rfl
    · have h := ih out (i + 1) (by omega) (by omega) (by omega)
      rw [mov, if_neg c, List.nil_append]
      refine Ev.step (fun k => ?_) h
      simp only [blocks_Moves.l0]
      rw [if_pos hi, if_pos h0, if_pos hi, if_neg (by omega), if_neg c, wr1 h0 hi (by omega)]
theorem ref_moves_loop (pages block : Int) (hp : 1 ≤ pages) (s : List R) (hl : (s.length : Int) ≤ 1000000000) (d : Nat) : ∀ (out : List R) (i : Int), 0 ≤ i → (s.length : Int) - i = d → (out.length : Int) ≤ i →
    Ev (fun k => ferruleref13_Moves.l0 k block pages out s i) (out ++ mov pages block s i d) := by
  induction d with
  | zero =>
    intro out i h0 hd ho
    refine Ev.step (fun k => ?_) (Ev.now _)
    simp only [ferruleref13_Moves.l0, mov]
    rw [if_neg (by omega), List.append_nil]
  | succ d ih =>
    intro out i h0 hd ho
    have hi : i < (s.length : Int) := by omega
    by_cases c : wrap64 (Int.tdiv (rd_T35 s i).f2 pages) = block
    · have h := ih (out ++ [rn (rd_T35 s i).f0 (rd_T35 s i).f1 (rd_T35 s i).f2]) (i + 1) (by omega) (by omega) (by simp <;> omega)
      rw [mov, if_pos c, ← List.append_assoc]
      refine Ev.step (fun k => ?_) h
      simp only [ferruleref13_Moves.l0]
      rw [if_pos hi, if_pos h0, if_neg (by omega), if_pos c, if_pos (by omega), wr1 h0 hi (by omega)]
      rfl
    · have h := ih out (i + 1) (by omega) (by omega) (by omega)
      rw [mov, if_neg c, List.nil_append]
      refine Ev.step (fun k => ?_) h
      simp only [ferruleref13_Moves.l0]
      rw [if_pos hi, if_pos h0, if_neg (by omega), if_neg c, wr1 h0 hi (by omega)]

theorem split_length {l : List R} {pages : Int} (h : splitOk l pages) : ((split pages l 0 l.length).length : Int) ≤ 300000 := by
  obtain ⟨hp, hp2, hf, hlow⟩ := h
  obtain ⟨hl, hform, hall⟩ := fits_parts hf
  have := split_len pages hp l (fun i h0 hi => (hall i h0 hi).2.1) l.length 0 (by omega) (by omega)
  omega

def movesR (l : List R) (block pages : Int) : List R × Int :=
  if splitOk l pages ∧ 0 ≤ block ∧ block < 64 then (mov pages block (split pages l 0 l.length) 0 (split pages l 0 l.length).length, 0) else ([], 1)
theorem moves_ev (l : List R) (block pages : Int) (hl : (l.length : Int) ≤ 140737488351232) : Ev (fun k => blocks_Moves.f k l block pages) (movesR l block pages) := by
  have out : ∀ (x : List R) (h : ¬ (splitOk l pages ∧ 0 ≤ block ∧ block < 64)), Ev (fun k => blocks_Moves.j0 k block pages x true) (movesR l block pages) := by
    intro x h
    unfold movesR
    rw [if_neg h]
    exact Ev.step (fun k => by simp only [blocks_Moves.j0, if_true]) (Ev.now _)
  refine Ev.congr (fun k => by rw [blocks_Moves.f]) ?_
  refine Ev.bind (split_ev l pages hl) ?_
  by_cases hs : splitOk l pages
  · have e : splitR l pages = (split pages l 0 l.length, 0) := by unfold splitR; rw [if_pos hs]
    rw [e]
    refine Ev.congr (fun k => by rw [if_pos rfl]) ?_
    by_cases c1 : block < 0
    · exact Ev.congr (fun k => by rw [if_pos c1]) (out _ (by omega))
    · refine Ev.congr (fun k => by rw [if_neg c1]) ?_
      by_cases c2 : block ≥ 64
      · rw [decide_eq_true c2]; exact out _ (by omega)
      · rw [decide_eq_false c2]
        have hlen := split_length hs
        refine Ev.step (f := fun k => blocks_Moves.l0 k block pages [] (split pages l 0 l.length) ((split pages l 0 l.length).length : Int) 0) (fun k => by simp only [blocks_Moves.j0, Bool.false_eq_true, if_false]) ?_
        have := moves_loop pages block hs.1 (split pages l 0 l.length) (by omega) (split pages l 0 l.length).length [] 0 (by omega) (by omega) (by simp)
        unfold movesR
        rw [if_pos ⟨hs, by omega, by omega⟩]
        simpa using this
  · have e : splitR l pages = ([], 1) := by unfold splitR; rw [if_neg hs]
    rw [e]
    exact Ev.congr (fun k => by rw [if_neg (by decide)]) (out _ (fun h => hs h.1))
theorem ref_moves_ev (l : List R) (block pages : Int) (hs : splitOk l pages) : Ev (fun k => ferruleref13_Moves.f k l block pages) (mov pages block (split pages l 0 l.length) 0 (split pages l 0 l.length).length) := by
  refine Ev.congr (fun k => by rw [ferruleref13_Moves.f, if_pos (by omega)]) ?_
  refine Ev.bind (ref_split_ev l pages hs) ?_
  have hlen := split_length hs
  have := ref_moves_loop pages block hs.1 (split pages l 0 l.length) (by omega) (split pages l 0 l.length).length [] 0 (by omega) (by omega) (by simp)
  exact Ev.congr (fun k => rfl) (by simpa using this)

/-! ### Fold: what it tells is wholesome -/
abbrev Pc := S42
theorem new_loop (d : Nat) : ∀ (t : List Int) (i : Int), t.length = 512 → 0 ≤ i → 512 - i = d → (∀ j, 0 ≤ j → j < i → rd t j = -1) → ∃ u, Ev (fun k => ferruleref9_New.l0 k 512 t i) u ∧ u.length = 512 ∧ ∀ j, 0 ≤ j → j < 512 → rd u j = -1 := by
  induction d with
  | zero => intro t i ht h0 hd h; exact ⟨t, Ev.step (fun k => by simp only [ferruleref9_New.l0]; rw [if_neg (by omega)]) (Ev.now _), ht, fun j h1 h2 => h j h1 (by omega)⟩
  | succ d ih =>
    intro t i ht h0 hd h
    obtain ⟨u, hE, hu⟩ := ih (t.set i.toNat (-1)) (i + 1) (by simpa using ht) (by omega) (by omega) (by
      intro j h1 h2
      unfold rd
      by_cases e : j = i
      · subst e; simp [List.getD, show j.toNat < t.length by omega]
      · have := h j h1 (by omega)
        unfold rd at this
        rw [List.getD_eq_getElem?_getD, List.getElem?_set_ne (by omega), ← List.getD_eq_getElem?_getD]; exact this)
    refine ⟨u, Ev.step (fun k => ?_) hE, hu⟩
    simp only [ferruleref9_New.l0]
    rw [if_pos (by omega), if_pos h0, if_pos (by omega), wr1 h0 (show i < 512 by omega) (by omega)]
theorem new_ev : ∃ u, Ev (fun k => ferruleref9_New.f k 512) u ∧ u.length = 512 ∧ ∀ j, 0 ≤ j → j < 512 → rd u j = -1 := by
  obtain ⟨u, hE, hu⟩ := new_loop 512 (List.replicate 512 0) 0 List.length_replicate (by omega) (by omega) (fun j h0 h1 => by omega)
  exact ⟨u, Ev.congr (fun k => by rw [ferruleref9_New.f, if_pos (by omega), if_pos (by decide)]; rfl) hE, hu⟩

/-- a table of pages -/
def tab (t : List Int) : Prop := t.length = 512 ∧ ∀ j, 0 ≤ j → j < 512 → -1 ≤ rd t j ∧ rd t j ≤ 1049088
theorem rd_set (t : List Int) (i j v : Int) (hi : 0 ≤ i) (hj : 0 ≤ j) (hl : i < (t.length : Int)) : rd (t.set i.toNat v) j = if j = i then v else rd t j := by
  unfold rd
  by_cases e : j = i
  · subst e; rw [if_pos rfl]; simp [List.getD, show j.toNat < t.length by omega]
  · rw [if_neg e, List.getD_eq_getElem?_getD, List.getElem?_set_ne (by omega), ← List.getD_eq_getElem?_getD]
theorem tab_set {t : List Int} (h : tab t) {i v : Int} (h0 : 0 ≤ i) (h1 : i < 512) (v0 : -1 ≤ v) (v1 : v ≤ 1049088) : tab (t.set i.toNat v) := by
  refine ⟨by simpa using h.1, fun j j0 j1 => ?_⟩
  rw [rd_set t i j v h0 j0 (by have := h.1; omega)]
  split
  · exact ⟨v0, v1⟩
  · exact h.2 j j0 j1

/-- a list of runs of a table -/
def runs_ok (l : List R) (n : Int) : Prop := (l.length : Int) ≤ n ∧ ∀ i, 0 ≤ i → i < (l.length : Int) → 0 ≤ (rd_T35 l i).f0 ∧ (rd_T35 l i).f0 < 512 ∧ 1 ≤ (rd_T35 l i).f1 ∧ (rd_T35 l i).f1 ≤ n ∧ 0 ≤ (rd_T35 l i).f2 ∧ (rd_T35 l i).f2 ≤ 1049088
theorem rd_app (o : List R) (x : R) (i : Int) (h0 : 0 ≤ i) (h1 : i < (o.length : Int)) : rd_T35 (o ++ [x]) i = rd_T35 o i := by
  unfold rd_T35
  rw [List.getD_eq_getElem?_getD, List.getElem?_append_left (by omega), ← List.getD_eq_getElem?_getD]
theorem rd_setR (o : List R) (x : R) (i j : Int) (hi : 0 ≤ i) (hj : 0 ≤ j) (hl : i < (o.length : Int)) : rd_T35 (o.set i.toNat x) j = if j = i then x else rd_T35 o j := by
  unfold rd_T35
  by_cases e : j = i
  · subst e; rw [if_pos rfl]; simp [List.getD, show j.toNat < o.length by omega]
  · rw [if_neg e, List.getD_eq_getElem?_getD, List.getElem?_set_ne (by omega), ← List.getD_eq_getElem?_getD]
theorem runs_ok_app {o : List R} {n a c : Int} (h : runs_ok o n) (h0 : 0 ≤ n) (ha : 0 ≤ a) (ha2 : a < 512) (hc : 0 ≤ c) (hc2 : c ≤ 1049088) : runs_ok (o ++ [(⟨a, 1, c⟩ : R)]) (n + 1) := by
  refine ⟨by have := h.1; simp; omega, fun i i0 i1 => ?_⟩
  simp only [List.length_append, List.length_cons, List.length_nil] at i1
  by_cases e : i < (o.length : Int)
  · rw [rd_app o _ i i0 e]
    have := h.2 i i0 e
    omega
  · rw [rd_last o _ i (by omega)]
    exact ⟨ha, ha2, (by show (1 : Int) ≤ 1; omega), (by show (1 : Int) ≤ n + 1; omega), hc, hc2⟩
theorem runs_ok_more {o : List R} {n : Int} (h : runs_ok o n) : runs_ok o (n + 1) :=
  ⟨by have := h.1; omega, fun i i0 i1 => by have := h.2 i i0 i1; omega⟩
theorem runs_ok_last {o : List R} {n : Int} (h : runs_ok o n) (hn : n ≤ 1000000) (ho : 0 < (o.length : Int)) :
    runs_ok (o.set ((o.length : Int) - 1).toNat (⟨(rd_T35 o ((o.length : Int) - 1)).f0, wrap64 ((rd_T35 o ((o.length : Int) - 1)).f1 + 1), (rd_T35 o ((o.length : Int) - 1)).f2⟩ : R)) (n + 1) := by
  refine ⟨by have := h.1; simp; omega, fun i i0 i1 => ?_⟩
  simp only [List.length_set] at i1
  rw [rd_setR o _ _ i (by omega) i0 (by omega)]
  have hq := h.2 ((o.length : Int) - 1) (by omega) (by omega)
  split
  · have e : wrap64 ((rd_T35 o ((o.length : Int) - 1)).f1 + 1) = (rd_T35 o ((o.length : Int) - 1)).f1 + 1 := wr (by omega) (by omega)
    obtain ⟨q0, q1, q2, q3, q4, q5⟩ := hq
    refine ⟨q0, q1, ?_, ?_, q4, q5⟩
    · show 1 ≤ wrap64 ((rd_T35 o ((o.length : Int) - 1)).f1 + 1)
      rw [e]; omega
    · show wrap64 ((rd_T35 o ((o.length : Int) - 1)).f1 + 1) ≤ n + 1
      rw [e]; omega
  · have := h.2 i i0 i1
    omega

theorem runs_loop (t : List Int) (ht : tab t) (d : Nat) : ∀ (o : List R) (i : Int), 0 ≤ i → 512 - i = d → runs_ok o i → (i > 0 → rd t (i - 1) ≥ 0 → 0 < (o.length : Int)) → ∃ u, Ev (fun k => ferruleref9_Runs.l0 k t o i) u ∧ runs_ok u 512 := by
  induction d with
  | zero =>
    intro o i h0 hd ho _
    obtain rfl : i = 512 := by omega
    exact ⟨o, Ev.step (fun k => by simp only [ferruleref9_Runs.l0]; rw [if_neg (by have := ht.1; omega)]) (Ev.now _), ho⟩
  | succ d ih =>
    intro o i h0 hd ho hpos
    have hl := ht.1
    have hi : i < (t.length : Int) := by omega
    have hw := wr1 h0 hi (by omega)
    have hti := ht.2 i h0 (by omega)
    have hlen := ho.1
    have app : rd t i ≥ 0 → ∃ u, Ev (fun k => ferruleref9_Runs.l0 k t (o ++ [(⟨i, 1, rd t i⟩ : R)]) (i + 1)) u ∧ runs_ok u 512 := fun hge =>
      ih (o ++ [(⟨i, 1, rd t i⟩ : R)]) (i + 1) (by omega) (by omega) (runs_ok_app ho h0 h0 (by omega) hge hti.2) (fun _ _ => by simp <;> omega)
    by_cases c : rd t i < 0
    · obtain ⟨u, hE, hu⟩ := ih o (i + 1) (by omega) (by omega) (runs_ok_more ho) (fun _ h => by rw [show i + 1 - 1 = i by omega] at h; omega)
      exact ⟨u, Ev.step (fun k => by simp only [ferruleref9_Runs.l0]; rw [if_pos hi, if_pos h0, if_pos c, hw]) hE, hu⟩
    · obtain ⟨u, hE, hu⟩ := app (by omega)
      by_cases c1 : i > 0
      · have hw1 : wrap64 (i - 1) = i - 1 := wr (by omega) (by omega)
        have htp := ht.2 (i - 1) (by omega) (by omega)
        have hw2 : wrap64 (rd t (i - 1) + 1) = rd t (i - 1) + 1 := wr (by omega) (by omega)
        by_cases c2 : rd t (i - 1) ≥ 0
        · by_cases c3 : rd t (i - 1) + 1 = rd t i
          · have hp := hpos c1 c2
            have hw3 : wrap64 ((o.length : Int) - 1) = (o.length : Int) - 1 := wr (by omega) (by omega)
            obtain ⟨u, hE, hu⟩ := ih _ (i + 1) (by omega) (by omega) (runs_ok_last ho (by omega) hp) (fun _ _ => by simp; omega)
            refine ⟨u, Ev.step (fun k => ?_) hE, hu⟩
            simp only [ferruleref9_Runs.l0]
            rw [if_pos hi, if_pos h0, if_neg c, if_pos c1, hw1, if_pos (by omega), if_pos (by omega), if_pos c2, hw2, if_pos c3, hw3, if_pos (by omega), if_pos (by omega), hw]
          · exact ⟨u, Ev.step (fun k => by simp only [ferruleref9_Runs.l0]; rw [if_pos hi, if_pos h0, if_neg c, if_pos c1, hw1, if_pos (by omega), if_pos (by omega), if_pos c2, hw2, if_neg c3, if_pos (by omega), hw]) hE, hu⟩
        · exact ⟨u, Ev.step (fun k => by simp only [ferruleref9_Runs.l0]; rw [if_pos hi, if_pos h0, if_neg c, if_pos c1, hw1, if_pos (by omega), if_pos (by omega), if_neg c2, if_pos (by omega), hw]) hE, hu⟩
      · exact ⟨u, Ev.step (fun k => by simp only [ferruleref9_Runs.l0]; rw [if_pos hi, if_pos h0, if_neg c, if_neg c1, if_pos (by omega), hw]) hE, hu⟩
theorem runs_ev (t : List Int) (ht : tab t) : ∃ u, Ev (fun k => ferruleref9_Runs.f k t) u ∧ runs_ok u 512 := by
  obtain ⟨u, hE, hu⟩ := runs_loop t ht 512 [] 0 (by omega) (by omega) ⟨by simp, fun i h0 h1 => by simp at h1; omega⟩ (fun h => by omega)
  exact ⟨u, Ev.congr (fun k => by rw [ferruleref9_Runs.f, if_pos (by omega)]; rfl) hE, hu⟩

theorem fold_one (p : List Pc) (i : Int) (x : Pc) (hw : wrap64 (i + 1) = i + 1) (g0 : 0 ≤ x.f0) (g1 : x.f0 ≤ 512) (g2 : 0 ≤ x.f2) (g3 : x.f2 ≤ 1048576) (hx : x.f1 ≤ 9223372036854775807)
    (Q : List R → Prop) (d : Nat) : ∀ (t : List Int) (j : Int), tab t → 0 ≤ j → 512 - x.f0 - j = d → (∀ t, tab t → ∃ u, Ev (fun k => ferruleref9_Fold.l0 k p t (i + 1)) u ∧ Q u) →
    ∃ u, Ev (fun k => ferruleref9_Fold.l1 k p t i j x.f0 x.f1 x.f2) u ∧ Q u := by
  induction d with
  | zero =>
    intro t j ht h0 hd h
    obtain ⟨u, hE, hu⟩ := h t ht
    refine ⟨u, Ev.step (fun k => ?_) hE, hu⟩
    simp only [ferruleref9_Fold.l1]
    have e : wrap64 (x.f0 + j) = x.f0 + j := wr (by omega) (by omega)
    rw [e, if_neg (show ¬ x.f0 + j < 512 by omega), hw, ite_self]
  | succ d ih =>
    intro t j ht h0 hd h
    have e : wrap64 (x.f0 + j) = x.f0 + j := wr (by omega) (by omega)
    have e2 : wrap64 (x.f2 + j) = x.f2 + j := wr (by omega) (by omega)
    by_cases c : j < x.f1
    · obtain ⟨u, hE, hu⟩ := ih (t.set (x.f0 + j).toNat (x.f2 + j)) (j + 1) (tab_set ht (by omega) (by omega) (by omega) (by omega)) (by omega) (by omega) h
      refine ⟨u, Ev.step (fun k => ?_) hE, hu⟩
      simp only [ferruleref9_Fold.l1]
      rw [if_pos c, e, if_pos (by omega), if_pos (by omega), if_pos (by have := ht.1; omega), e2, wr1 h0 (show j < 513 by omega) (by omega)]
    · obtain ⟨u, hE, hu⟩ := h t ht
      refine ⟨u, Ev.step (fun k => ?_) hE, hu⟩
      simp only [ferruleref9_Fold.l1]
      rw [if_neg c, hw]

theorem fold_loop (p : List Pc) (hp : (p.length : Int) ≤ 140737488351232) (hall : ∀ i, 0 ≤ i → i < (p.length : Int) → (rd_T42 p i).f1 ≤ 9223372036854775807) (d : Nat) : ∀ (t : List Int) (i : Int), tab t → 0 ≤ i → (p.length : Int) - i = d →
    ∃ u, Ev (fun k => ferruleref9_Fold.l0 k p t i) u ∧ runs_ok u 512 := by
  induction d with
  | zero =>
    intro t i ht h0 hd
    obtain ⟨u, hE, hu⟩ := runs_ev t ht
    refine ⟨u, Ev.step (fun k => by simp only [ferruleref9_Fold.l0]; rw [if_neg (by omega)]) (Ev.bind hE (Ev.now _)), hu⟩
  | succ d ih =>
    intro t i ht h0 hd
    have hi : i < (p.length : Int) := by omega
    have hw := wr1 h0 hi hp
    have hx := hall i h0 hi
    generalize hpx : rd_T42 p i = x at hx
    have skip : ∃ u, Ev (fun k => ferruleref9_Fold.j1 k p t i true x.f0 x.f1 x.f2) u ∧ runs_ok u 512 := by
      obtain ⟨u, hE, hu⟩ := ih t (i + 1) ht (by omega) (by omega)
      exact ⟨u, Ev.step (fun k => by simp only [ferruleref9_Fold.j1, if_true]; rw [hw]) hE, hu⟩
    have via : ∀ b, (∃ u, Ev (fun k => ferruleref9_Fold.j1 k p t i b x.f0 x.f1 x.f2) u ∧ runs_ok u 512) → (∀ k, ferruleref9_Fold.l0 (k + 1) p t i = ferruleref9_Fold.j1 k p t i b x.f0 x.f1 x.f2) → ∃ u, Ev (fun k => ferruleref9_Fold.l0 k p t i) u ∧ runs_ok u 512 := by
      intro b ⟨u, hE, hu⟩ hk
      exact ⟨u, Ev.step hk hE, hu⟩
    by_cases c1 : x.f2 < 0
    · exact via true skip (fun k => by simp only [ferruleref9_Fold.l0]; rw [if_pos hi, if_pos h0, hpx, if_pos c1])
    by_cases c2 : x.f2 > 1048576
    · exact via true skip (fun k => by simp only [ferruleref9_Fold.l0]; rw [if_pos hi, if_pos h0, hpx, if_neg c1, if_pos c2])
    by_cases c3 : x.f1 < 1
    · exact via true skip (fun k => by simp only [ferruleref9_Fold.l0]; rw [if_pos hi, if_pos h0, hpx, if_neg c1, if_neg c2, if_pos c3])
    by_cases c4 : x.f0 < 0
    · exact via true skip (fun k => by simp only [ferruleref9_Fold.l0]; rw [if_pos hi, if_pos h0, hpx, if_neg c1, if_neg c2, if_neg c3, if_pos c4])
    by_cases c5 : x.f0 > 512
    · exact via true skip (fun k => by simp only [ferruleref9_Fold.l0]; rw [if_pos hi, if_pos h0, hpx, if_neg c1, if_neg c2, if_neg c3, if_neg c4, decide_eq_true c5])
    refine via false ?_ (fun k => by simp only [ferruleref9_Fold.l0]; rw [if_pos hi, if_pos h0, hpx, if_neg c1, if_neg c2, if_neg c3, if_neg c4, decide_eq_false c5])
    obtain ⟨u, hE, hu⟩ := fold_one p i x hw (by omega) (by omega) (by omega) (by omega) hx (fun u => runs_ok u 512) (512 - x.f0).toNat t 0 ht (by omega) (by omega) (fun t ht => ih t (i + 1) ht (by omega) (by omega))
    exact ⟨u, Ev.step (fun k => by simp only [ferruleref9_Fold.j1, Bool.false_eq_true, if_false]) hE, hu⟩
theorem fold_ev (p : List Pc) (hp : (p.length : Int) ≤ 140737488351232) (hall : ∀ i, 0 ≤ i → i < (p.length : Int) → (rd_T42 p i).f1 ≤ 9223372036854775807) : ∃ u, Ev (fun k => ferruleref9_Fold.f k p) u ∧ runs_ok u 512 := by
  obtain ⟨t, hE, ht, hall2⟩ := new_ev
  obtain ⟨u, hE2, hu⟩ := fold_loop p hp hall p.length t 0 ⟨ht, fun j h0 h1 => by rw [hall2 j h0 h1]; omega⟩ (by omega) (by omega)
  exact ⟨u, Ev.congr (fun k => by rw [ferruleref9_Fold.f]) (Ev.bind hE hE2), hu⟩

/-! ### tells -/
theorem low_loop2 (l : List R) (pages block : Int) (s : List R) (f : Int) (m : List R) (g : Int) (hl : (l.length : Int) ≤ 140737488351232) (Q : Bool → Prop) (d : Nat) : ∀ (ok : Bool) (i : Int), 0 ≤ i → (l.length : Int) - i = d →
    Ev (fun k => ferrulelaw13_tells.l0 k l pages block s f m g (ok && allB (lowI l) i d) (l.length : Int)) true → Ev (fun k => ferrulelaw13_tells.l0 k l pages block s f m g ok i) true := by
  induction d with
  | zero =>
    intro ok i h0 hd h
    obtain rfl : i = l.length := by omega
    simpa [allB] using h
  | succ d ih =>
    intro ok i h0 hd h
    have hi : i < (l.length : Int) := by omega
    cases ok with
    | true =>
      refine Ev.step (fun k => ?_) (ih (decide ((rd_T35 l i).f2 ≤ 1048576)) (i + 1) (by omega) (by omega) ?_)
      · simp only [ferrulelaw13_tells.l0, if_true]
        rw [if_pos hi, if_pos h0, wr1 h0 hi hl]
      · simpa [allB, lowI] using h
    | false =>
      refine Ev.step (fun k => ?_) (ih false (i + 1) (by omega) (by omega) ?_)
      · simp only [ferrulelaw13_tells.l0, Bool.false_eq_true, if_false]
        rw [if_pos hi, wr1 h0 hi hl]
      · simpa [allB] using h

theorem tail_ev (l : List R) (pages block : Int) (hl : (l.length : Int) ≤ 140737488351232) :
    Ev (fun k => ferrulelaw13_tells.l0 k l pages block (splitR l pages).1 (splitR l pages).2 (movesR l block pages).1 (movesR l block pages).2 (decide (splitOk l pages)) (l.length : Int)) true := by
  by_cases hs : splitOk l pages
  · have e : splitR l pages = (split pages l 0 l.length, 0) := by unfold splitR; rw [if_pos hs]
    have hlen := split_length hs
    rw [decide_eq_true hs, e]
    refine Ev.step (f := fun k => (ferruleref13_Split.f k l pages).bind fun t267 => ((ferruleref9_Same.f k (split pages l 0 l.length) t267).bind fun t270 => (ferrulelaw13_tells.j5 k l pages block (movesR l block pages).1 (movesR l block pages).2 (!t270)))) (fun k => ?_) ?_
    · simp only [ferrulelaw13_tells.l0]
      rw [if_neg (by omega)]; simp
    refine Ev.bind (ref_split_ev l pages hs) ?_
    refine Ev.bind (same_ev _ (by omega)) ?_
    by_cases hb : 0 ≤ block ∧ block < 64
    · have em : movesR l block pages = (mov pages block (split pages l 0 l.length) 0 (split pages l 0 l.length).length, 0) := by unfold movesR; rw [if_pos ⟨hs, hb⟩]
      rw [em]
      refine Ev.step (f := fun k => ferrulelaw13_tells.j6 k l pages block (mov pages block (split pages l 0 l.length) 0 (split pages l 0 l.length).length) 0 false) (fun k => ?_) ?_
      · simp only [ferrulelaw13_tells.j5, Bool.not_true, Bool.false_eq_true, if_false]
        rw [if_neg (by omega), decide_eq_false (by omega)]
      refine Ev.step (f := fun k => (ferruleref13_Moves.f k l block pages).bind fun t271 => ((ferruleref9_Same.f k (mov pages block (split pages l 0 l.length) 0 (split pages l 0 l.length).length) t271).bind fun t274 => (some t274))) (fun k => ?_) ?_
      · simp only [ferrulelaw13_tells.j6, Bool.false_eq_true, if_false, if_true]
      refine Ev.bind (ref_moves_ev l block pages hs) ?_
      have hm : ((mov pages block (split pages l 0 l.length) 0 (split pages l 0 l.length).length).length : Int) ≤ (split pages l 0 l.length).length := by
        have : ∀ (d : Nat) (i : Int), ((mov pages block (split pages l 0 l.length) i d).length : Int) ≤ d := by
          intro d
          induction d with
          | zero => intro i; simp [mov]
          | succ d ih =>
            intro i
            rw [mov, List.length_append]
            have := ih (i + 1)
            split <;> simp <;> omega
        exact this _ 0
      refine Ev.bind (same_ev _ (by omega)) (Ev.now _)
    · have em : movesR l block pages = ([], 1) := by unfold movesR; rw [if_neg (fun h => hb h.2)]
      rw [em]
      refine Ev.step (f := fun k => ferrulelaw13_tells.j6 k l pages block [] 1 true) (fun k => ?_) ?_
      · simp only [ferrulelaw13_tells.j5, Bool.not_true, Bool.false_eq_true, if_false]
        by_cases c : block < 0
        · rw [if_pos c]
        · rw [if_neg c, decide_eq_true (by omega)]
      · exact Ev.step (fun k => by simp only [ferrulelaw13_tells.j6, if_true]; rfl) (Ev.now _)
  · have e : splitR l pages = ([], 1) := by unfold splitR; rw [if_neg hs]
    have em : movesR l block pages = ([], 1) := by unfold movesR; rw [if_neg (fun h => hs h.1)]
    rw [decide_eq_false hs, e, em]
    refine Ev.step (f := fun _ => some true) (fun k => ?_) (Ev.now _)
    simp only [ferrulelaw13_tells.l0]
    rw [if_neg (by omega)]
    simp

theorem mid_ev (l : List R) (pages block : Int) (hl : (l.length : Int) ≤ 140737488351232) :
    Ev (fun k => ferrulelaw13_tells.j2 k l pages block (splitR l pages).1 (splitR l pages).2 (movesR l block pages).1 (movesR l block pages).2 (decide (1 ≤ pages ∧ pages ≤ 32 ∧ fits l = true))) true := by
  have fin : ∀ b, (b && allB (lowI l) 0 l.length) = decide (splitOk l pages) → Ev (fun k => ferrulelaw13_tells.j3 k l pages block (splitR l pages).1 (splitR l pages).2 (movesR l block pages).1 (movesR l block pages).2 b) true := by
    intro b hb
    refine Ev.step (f := fun k => ferrulelaw13_tells.l0 k l pages block (splitR l pages).1 (splitR l pages).2 (movesR l block pages).1 (movesR l block pages).2 b 0) (fun k => by simp only [ferrulelaw13_tells.j3]) ?_
    refine low_loop2 l pages block _ _ _ _ hl (fun _ => True) l.length b 0 (by omega) (by omega) ?_
    rw [hb]
    exact tail_ev l pages block hl
  by_cases h : 1 ≤ pages ∧ pages ≤ 32 ∧ fits l = true
  · rw [decide_eq_true h]
    refine Ev.step (f := fun k => (ferruleref13_Inside.f k l 1049089).bind fun t265 => ferrulelaw13_tells.j3 k l pages block (splitR l pages).1 (splitR l pages).2 (movesR l block pages).1 (movesR l block pages).2 t265) (fun k => by simp only [ferrulelaw13_tells.j2, if_true]) ?_
    refine Ev.bind (inside_ev l 1049089 (by omega) (by omega) h.2.2) ?_
    refine fin _ ?_
    cases hlow : allB (lowI l) 0 l.length with
    | false =>
      rw [Bool.and_false]
      exact (decide_eq_false (fun hs => by have := hs.2.2.2; rw [hlow] at this; cases this)).symm
    | true =>
      rw [Bool.and_true, decide_eq_true (show splitOk l pages from ⟨h.1, h.2.1, h.2.2, hlow⟩)]
      refine allB_of fun j h0 h1 => decide_eq_true ?_
      have := (fits_parts h.2.2).2.2 j h0 (by omega)
      have h3 : (rd_T35 l j).f2 ≤ 1048576 := of_decide_eq_true (allB_true hlow j h0 h1)
      omega
  · rw [decide_eq_false h]
    refine Ev.step (f := fun k => ferrulelaw13_tells.j3 k l pages block (splitR l pages).1 (splitR l pages).2 (movesR l block pages).1 (movesR l block pages).2 false) (fun k => by simp only [ferrulelaw13_tells.j2, Bool.false_eq_true, if_false]) ?_
    refine fin _ ?_
    rw [Bool.false_and]
    exact (decide_eq_false (fun hs => h ⟨hs.1, hs.2.1, hs.2.2.1⟩)).symm

theorem tells_ev (l : List R) (n pages block : Int) (hl : (l.length : Int) ≤ 5864062014634) : Ev (fun k => ferrulelaw13_tells.f k l n pages block) true := by
  have e : (([] ++ l ++ [(⟨9, 0, 0⟩ : R)]).take ((l.length : Int) : Int).toNat : List R) = l := by simp
  refine Ev.congr (f := fun k => (blocks_Valid.f k l n pages).bind fun bt246 => ((blocks_Split.f k l pages).bind fun bt250 => ((blocks_Moves.f k l block pages).bind fun bt254 => ((ferruleref9_Same.f k l l).bind fun t258 => (if t258 = true then (if pages ≥ 1 then (if pages ≤ 32 then ((ferruleref13_Fits.f k l).bind fun t259 => (ferrulelaw13_tells.j0 k l n pages block bt246.1 bt246.2 bt250.1 bt250.2 bt254.1 bt254.2 t259)) else (ferrulelaw13_tells.j0 k l n pages block bt246.1 bt246.2 bt250.1 bt250.2 bt254.1 bt254.2 false)) else (ferrulelaw13_tells.j0 k l n pages block bt246.1 bt246.2 bt250.1 bt250.2 bt254.1 bt254.2 false)) else (some false)))))) (fun k => ?_) ?_
  · rw [ferrulelaw13_tells.f]
    simp only [Option.bind_some]
    rw [if_pos (by simp; omega), if_pos (by simp; omega), if_pos (by omega), if_pos (by simp; omega), e]
  refine Ev.bind (valid_ev l n pages (by omega)) ?_
  refine Ev.bind (split_ev l pages (by omega)) ?_
  refine Ev.bind (moves_ev l block pages (by omega)) ?_
  refine Ev.bind (same_ev l (by omega)) ?_
  refine Ev.congr (fun k => by rw [if_pos rfl]) ?_
  have key : Ev (fun k => ferrulelaw13_tells.j0 k l n pages block (validR l n pages).1 (validR l n pages).2 (splitR l pages).1 (splitR l pages).2 (movesR l block pages).1 (movesR l block pages).2 (decide (1 ≤ pages ∧ pages ≤ 32 ∧ fits l = true))) true := by
    have bad : ∀ (h : ¬ (1 ≤ n ∧ n ≤ 64 ∧ 1 ≤ pages ∧ pages ≤ 32 ∧ fits l = true ∧ allB (insI l (n * pages)) 0 l.length = true)), Ev (fun k => ferrulelaw13_tells.j1 k l n pages block (validR l n pages).1 (validR l n pages).2 (splitR l pages).1 (splitR l pages).2 (movesR l block pages).1 (movesR l block pages).2 (decide (1 ≤ pages ∧ pages ≤ 32 ∧ fits l = true)) true) true := by
      intro h
      have ev : validR l n pages = ([], 1) := by unfold validR; rw [if_neg h]
      refine Ev.step (fun k => ?_) (mid_ev l pages block (by omega))
      rw [ev]
      simp [ferrulelaw13_tells.j1]
    by_cases hp : 1 ≤ pages ∧ pages ≤ 32 ∧ fits l = true
    · rw [decide_eq_true hp]
      rw [decide_eq_true hp] at bad
      by_cases c1 : n < 1
      · exact Ev.step (fun k => by simp only [ferrulelaw13_tells.j0, if_true]; rw [if_pos c1]) (bad (by omega))
      by_cases c2 : n > 64
      · exact Ev.step (fun k => by simp only [ferrulelaw13_tells.j0, if_true]; rw [if_neg c1, if_pos c2]) (bad (by omega))
      obtain ⟨m0, m1⟩ := mul_le (show 1 ≤ n by omega) (by omega) hp.1 hp.2.1
      refine Ev.step (f := fun k => (ferruleref13_Inside.f k l (n * pages)).bind fun t260 => ferrulelaw13_tells.j1 k l n pages block (validR l n pages).1 (validR l n pages).2 (splitR l pages).1 (splitR l pages).2 (movesR l block pages).1 (movesR l block pages).2 true (!t260)) (fun k => by simp only [ferrulelaw13_tells.j0, if_true]; rw [if_neg c1, if_neg c2, wr (show -9223372036854775808 ≤ n * pages by omega) (by omega)]) ?_
      refine Ev.bind (inside_ev l (n * pages) (by omega) (by omega) hp.2.2) ?_
      cases hin : allB (insI l (n * pages)) 0 l.length with
      | false => exact bad (fun h => by have := h.2.2.2.2.2; rw [hin] at this; cases this)
      | true =>
        have ev : validR l n pages = (count pages l (List.replicate n.toNat 0) 0 l.length, 0) := by
          unfold validR; rw [if_pos ⟨by omega, by omega, hp.1, hp.2.1, hp.2.2, hin⟩]
        rw [ev]
        refine Ev.step (f := fun k => (ferruleref13_Valid.f k l n pages).bind fun t261 => ((ferrulelaw13_ints.f k (count pages l (List.replicate n.toNat 0) 0 l.length) t261).bind fun t264 => (if t264 = true then (ferrulelaw13_tells.j2 k l pages block (splitR l pages).1 (splitR l pages).2 (movesR l block pages).1 (movesR l block pages).2 true) else (some false)))) (fun k => by simp [ferrulelaw13_tells.j1]) ?_
        refine Ev.bind (ref_valid_ev n pages l (by omega) (by omega) hp.1 hp.2.1 hp.2.2 hin) ?_
        have hcl : ∀ (d : Nat) (v : List Int) (i : Int), (count pages l v i d).length = v.length := by
          intro d
          induction d with
          | zero => intro v i; rfl
          | succ d ih => intro v i; rw [count, ih, bump_length]
        refine Ev.bind (ints_ev _ (by rw [hcl]; simp; omega)) ?_
        refine Ev.congr (fun k => by rw [if_pos rfl]) ?_
        have := mid_ev l pages block (by omega)
        rw [decide_eq_true hp] at this
        exact this
    · rw [decide_eq_false hp]
      have hb := bad (fun h => hp ⟨h.2.2.1, h.2.2.2.1, h.2.2.2.2.1⟩)
      rw [decide_eq_false hp] at hb
      exact Ev.step (fun k => by simp only [ferrulelaw13_tells.j0, Bool.false_eq_true, if_false]) hb
  by_cases p1 : pages ≥ 1
  · refine Ev.congr (fun k => by rw [if_pos p1]) ?_
    by_cases p2 : pages ≤ 32
    · refine Ev.congr (fun k => by rw [if_pos p2]) ?_
      refine Ev.bind (ref_fits_ev l (by omega)) ?_
      have : decide (1 ≤ pages ∧ pages ≤ 32 ∧ fits l = true) = fits l := by
        cases hf : fits l <;> simp <;> omega
      rw [this] at key
      exact key
    · refine Ev.congr (fun k => by rw [if_neg p2]) ?_
      rw [decide_eq_false (by omega)] at key
      exact key
  · refine Ev.congr (fun k => by rw [if_neg p1]) ?_
    rw [decide_eq_false (by omega)] at key
    exact key

theorem awake_true : Ev (fun k => ferrulelaw13_awake.f k) true := Ev.of (fun k => ferrulelaw13_awake.mono k) (k := 60) (by decide +kernel)

theorem BlocksRuns : ferrulelaw13_BlocksRuns.Pure := by
  intro l p n pages block _ hl _ hpm hp hpw _ _ _
  refine Ev.rounds (g := fun k => ferrulelaw13_BlocksRuns.f k l p n pages block) (r := true) ?_
  refine Ev.congr (fun k => by rw [ferrulelaw13_BlocksRuns.f]) ?_
  refine Ev.bind awake_true ?_
  refine Ev.congr (fun k => by rw [if_pos rfl]) ?_
  by_cases c : (p.length : Int) > 100
  · rw [decide_eq_true c]
    refine Ev.step (f := fun k => (ferrulelaw13_awake.f k).bind fun t310 => (some t310)) (fun k => by simp only [ferrulelaw13_BlocksRuns.j0, if_true]) ?_
    exact Ev.bind awake_true (Ev.now _)
  · rw [decide_eq_false c]
    refine Ev.step (f := fun k => (ferrulelaw13_tells.f k l n pages block).bind fun t311 => (if t311 = true then ((ferruleref9_Fold.f k p).bind fun t312 => ((ferrulelaw13_tells.f k t312 n pages block).bind fun t315 => (some t315))) else (some false))) (fun k => by simp only [ferrulelaw13_BlocksRuns.j0, Bool.false_eq_true, if_false]) ?_
    refine Ev.bind (tells_ev l n pages block (by omega)) ?_
    refine Ev.congr (fun k => by rw [if_pos rfl]) ?_
    obtain ⟨u, hE, hu⟩ := fold_ev p (by omega) (by
      intro i h0 h1
      have hm : rd_T42 p i ∈ p := by
        unfold rd_T42
        rw [List.getD_eq_getElem?_getD, List.getElem?_eq_getElem (by omega)]
        exact List.getElem_mem _
      have := (hpw _ hm).2.1
      have h2 : -9223372036854775808 ≤ (rd_T42 p i).f1 ∧ (rd_T42 p i).f1 ≤ 9223372036854775807 := by simpa [Lit.wf, IntKind.min, IntKind.max, IntKind.signed, IntKind.bits] using this
      exact h2.2)
    refine Ev.bind hE ?_
    exact Ev.bind (tells_ev u n pages block (by have := hu.1; omega)) (Ev.now _)

end Go.Proofs.Ytnogokemjcfaoaa.Pure
