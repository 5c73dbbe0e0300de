/- For any pieces and any number of pages a block: the parts of the runs that the pieces fold to, block by block, are all their pages, lie within their block, come to what Valid counts, and fold to the runs again. Conditions: none beyond the row's own. -/
import Derived.Test.YtnogokemjcfaoaaPBlocksPartsx8
namespace Go.Proofs.Ytnogokemjcfaoaa.Pure
open Go.RowKit Go.Proofs.Ytnogokemjcfaoaa.PBlocksParts Go.Proofs.YtnogokemjcfaoaaW.PrintWords Go.Proofs.YtnogokemjcfaoaaW.PrintLast Go.Proofs.YtnogokemjcfaoaaW.PrintMore
set_option linter.unusedVariables false
set_option linter.unusedSimpArgs false

theorem wr {x : Int} (h0 : -9223372036854775808 ≤ x) (h1 : x ≤ 9223372036854775807) : wrap64 x = x := by unfold wrap64; omega
theorem wr1 {i n : Int} (h0 : 0 ≤ i) (h : i < n) (hn : n ≤ 140737488351232) : wrap64 (i + 1) = i + 1 := wr (by omega) (by omega)

/-- p holds from i on, d times -/
def allB (p : Int → Bool) (i : Int) : Nat → Bool
  | 0 => true
  | d + 1 => p i && allB p (i + 1) d
theorem allB_true {p : Int → Bool} {i : Int} {d : Nat} (h : allB p i d = true) : ∀ j, i ≤ j → j < i + d → p j = true := by
  induction d generalizing i with
  | zero => intro j h1 h2; omega
  | succ d ih =>
    simp only [allB, Bool.and_eq_true] at h
    intro j h1 h2
    by_cases e : j = i
    · subst e; exact h.1
    · exact ih h.2 j (by omega) (by omega)
theorem allB_of {p : Int → Bool} {i : Int} {d : Nat} (h : ∀ j, i ≤ j → j < i + d → p j = true) : allB p i d = true := by
  induction d generalizing i with
  | zero => rfl
  | succ d ih => simp only [allB, Bool.and_eq_true]; exact ⟨h i (by omega) (by omega), ih fun j h1 h2 => h j (by omega) (by omega)⟩
theorem allB_congr {p q : Int → Bool} {i : Int} {d : Nat} (h : ∀ j, i ≤ j → j < i + d → p j = q j) : allB p i d = allB q i d := by
  induction d generalizing i with
  | zero => rfl
  | succ d ih => simp only [allB]; rw [h i (by omega) (by omega), ih fun j h1 h2 => h j (by omega) (by omega)]

abbrev R := S35
def r_ (l : List R) (i : Int) : R := rd_T35 l i
/-! ### Form -/
def good1 (x : R) : Prop := 0 ≤ x.f0 ∧ x.f0 ≤ 1073741824 ∧ 0 ≤ x.f2 ∧ x.f2 ≤ 1073741824 ∧ 1 ≤ x.f1 ∧ x.f1 ≤ 1073741824
instance (x : R) : Decidable (good1 x) := by unfold good1; exact inferInstance
def adj (p x : R) : Prop := p.f0 + p.f1 ≤ x.f0 ∧ ¬ (p.f0 + p.f1 = x.f0 ∧ p.f2 + p.f1 = x.f2)
instance (p x : R) : Decidable (adj p x) := by unfold adj; exact inferInstance
def formI (l : List R) (i : Int) : Bool := decide (good1 (rd_T35 l i)) && (decide (i = 0) || decide (adj (rd_T35 l (i - 1)) (rd_T35 l i)))
def form (l : List R) : Bool := allB (formI l) 0 l.length

theorem form_prog (l : List R) (hl : (l.length : Int) ≤ 140737488351232) (d : Nat) : ∀ (i : Int), 0 ≤ i → (l.length : Int) - i = d → (i = 0 ∨ good1 (rd_T35 l (i - 1))) →
    Ev (fun k => span_Form.l0 k l l (l.length : Int) i) (allB (formI l) i d) := by
  induction d with
  | zero =>
    intro i h0 hd _
    refine Ev.step (fun k => ?_) (Ev.now _)
    simp only [span_Form.l0, allB]
    rw [if_neg (by omega)]
  | succ d ih =>
    intro i h0 hd hp
    have hi : i < (l.length : Int) := by omega
    have hw := wr1 h0 hi hl
    have hw1 : wrap64 (i - 1) = i - 1 := wr (by omega) (by omega)
    generalize hx : rd_T35 l i = x
    have step1 : ∀ b, b = !decide (good1 x) → Ev (fun k => span_Form.j1 k l i l (l.length : Int) i b x.f0 x.f1 x.f2) (allB (formI l) i (d + 1)) := by
      intro b hb
      subst hb
      by_cases hg : good1 x
      · simp only [hg, decide_true, Bool.not_true]
        have nx := ih (i + 1) (by omega) (by omega) (Or.inr (by rw [show i + 1 - 1 = i by omega, hx]; exact hg))
        by_cases hi0 : i = 0
        · refine Ev.step (f := fun k => span_Form.l0 k l l (l.length : Int) (i + 1)) (fun k => ?_) ?_
          · simp only [span_Form.j1]
            rw [if_neg (by decide), if_pos hi0, hw]
          · have hfi : formI l i = true := by
              unfold formI
              rw [hx, decide_eq_true hg, decide_eq_true hi0]; rfl
            simp only [allB, hfi, Bool.true_and]
            exact nx
        · have hgp : good1 (rd_T35 l (i - 1)) := hp.resolve_left hi0
          generalize hpx : rd_T35 l (i - 1) = p at hgp
          obtain ⟨a0, a1, a2, a3, a4, a5⟩ := hg
          obtain ⟨b0, b1, b2, b3, b4, b5⟩ := hgp
          have e1 : wrap64 (x.f0 - p.f0) = x.f0 - p.f0 := wr (by omega) (by omega)
          have e2 : wrap64 (x.f2 - p.f2) = x.f2 - p.f2 := wr (by omega) (by omega)
          have hfi : formI l i = decide (adj p x) := by
            have hgx : good1 x := ⟨a0, a1, a2, a3, a4, a5⟩
            simp [formI, hx, hpx, hi0, hgx]
          by_cases c1 : x.f0 - p.f0 < p.f1
          · refine Ev.step (f := fun _ => some false) (fun k => ?_) (by
              have : ¬ adj p x := fun h => by have := h.1; omega
              simp only [allB, hfi, this, decide_false, Bool.false_and]; exact Ev.now _)
            simp only [span_Form.j1]
            rw [if_neg (by decide), if_neg hi0, hw1, if_pos (by omega), if_pos (by omega), hpx, e1, if_pos c1]
          · by_cases c2 : x.f0 - p.f0 = p.f1
            · by_cases c3 : x.f2 - p.f2 = p.f1
              · refine Ev.step (f := fun _ => some false) (fun k => ?_) (by
                  have : ¬ adj p x := fun h => h.2 ⟨by omega, by omega⟩
                  simp only [allB, hfi, this, decide_false, Bool.false_and]; exact Ev.now _)
                simp only [span_Form.j1]
                rw [if_neg (by decide), if_neg hi0, hw1, if_pos (by omega), if_pos (by omega), hpx, e1, if_neg c1, if_pos c2, e2, if_pos c3]
              · refine Ev.step (f := fun k => span_Form.l0 k l l (l.length : Int) (i + 1)) (fun k => ?_) (by
                  have : adj p x := ⟨by omega, fun h => by omega⟩
                  simp only [allB, hfi, this, decide_true, Bool.true_and]; exact nx)
                simp only [span_Form.j1]
                rw [if_neg (by decide), if_neg hi0, hw1, if_pos (by omega), if_pos (by omega), hpx, e1, if_neg c1, if_pos c2, e2, if_neg c3, hw]
            · refine Ev.step (f := fun k => span_Form.l0 k l l (l.length : Int) (i + 1)) (fun k => ?_) (by
                have : adj p x := ⟨by omega, fun h => by omega⟩
                simp only [allB, hfi, this, decide_true, Bool.true_and]; exact nx)
              simp only [span_Form.j1]
              rw [if_neg (by decide), if_neg hi0, hw1, if_pos (by omega), if_pos (by omega), hpx, e1, if_neg c1, if_neg c2, hw]
      · simp only [hg, decide_false, Bool.not_false]
        refine Ev.step (f := fun _ => some false) (fun k => by simp only [span_Form.j1, if_true]) (by
          simp only [allB, formI, hx, hg, decide_false, Bool.false_and]; exact Ev.now _)
    have hB : (!decide (good1 x)) = (decide (x.f0 < 0) || decide (x.f0 > 1073741824) || decide (x.f2 < 0) || decide (x.f2 > 1073741824) || decide (x.f1 < 1) || decide (x.f1 > 1073741824)) := by
      by_cases hg : good1 x
      · obtain ⟨a0, a1, a2, a3, a4, a5⟩ := id hg
        rw [decide_eq_true hg, decide_eq_false (show ¬ x.f0 < 0 by omega), decide_eq_false (show ¬ x.f0 > 1073741824 by omega), decide_eq_false (show ¬ x.f2 < 0 by omega), decide_eq_false (show ¬ x.f2 > 1073741824 by omega), decide_eq_false (show ¬ x.f1 < 1 by omega), decide_eq_false (show ¬ x.f1 > 1073741824 by omega)]
        rfl
      · rw [decide_eq_false hg]
        have : x.f0 < 0 ∨ x.f0 > 1073741824 ∨ x.f2 < 0 ∨ x.f2 > 1073741824 ∨ x.f1 < 1 ∨ x.f1 > 1073741824 := by
          unfold good1 at hg; omega
        simp only [Bool.not_false]
        symm
        simp only [Bool.or_eq_true, decide_eq_true_eq]
        omega
    refine Ev.step (f := fun k => span_Form.j1 k l i l (l.length : Int) i (!decide (good1 x)) x.f0 x.f1 x.f2) (fun k => ?_) (step1 _ rfl)
    simp only [span_Form.l0]
    rw [if_pos hi, if_pos h0, if_pos hi, hx, hB]
    by_cases c1 : x.f0 < 0
    · simp [c1]
    by_cases c2 : x.f0 > 1073741824
    · simp [c1, c2]
    by_cases c3 : x.f2 < 0
    · simp [c1, c2, c3]
    by_cases c4 : x.f2 > 1073741824
    · simp [c1, c2, c3, c4]
    by_cases c5 : x.f1 < 1
    · simp [c1, c2, c3, c4, c5]
    simp [c1, c2, c3, c4, c5]

theorem form_ev (l : List R) (hl : (l.length : Int) ≤ 140737488351232) : Ev (fun k => span_Form.f k l) (form l) :=
  Ev.congr (fun k => by rw [span_Form.f]) (form_prog l hl l.length 0 (by omega) (by omega) (Or.inl rfl))

theorem form_at {l : List R} (h : form l = true) {i : Int} (h0 : 0 ≤ i) (h1 : i < (l.length : Int)) : good1 (rd_T35 l i) ∧ (i = 0 ∨ adj (rd_T35 l (i - 1)) (rd_T35 l i)) := by
  have := allB_true h i h0 (by omega)
  unfold formI at this
  simpa using this

/-! ### Fits -/
def endsI (l : List R) (i : Int) : Bool := decide ((rd_T35 l i).f1 ≤ 512 ∧ (rd_T35 l i).f0 ≤ 512 - (rd_T35 l i).f1)
def fits (l : List R) : Bool := decide ((l.length : Int) ≤ 512) && (form l && allB (endsI l) 0 l.length)

theorem fits_loop (l : List R) (hl : (l.length : Int) ≤ 512) (hf : form l = true) (d : Nat) : ∀ (i : Int), 0 ≤ i → (l.length : Int) - i = d →
    Ev (fun k => blocks_fits.l0 k l (l.length : Int) i) (allB (endsI l) i d) := by
  induction d with
  | zero =>
    intro i h0 hd
    refine Ev.step (fun k => ?_) (Ev.now _)
    simp only [blocks_fits.l0, allB]
    rw [if_neg (by omega)]
  | succ d ih =>
    intro i h0 hd
    have hi : i < (l.length : Int) := by omega
    have hw := wr1 h0 hi (by omega)
    obtain ⟨a0, a1, a2, a3, a4, a5⟩ := (form_at hf h0 hi).1
    have e : wrap64 (512 - (rd_T35 l i).f1) = 512 - (rd_T35 l i).f1 := wr (by omega) (by omega)
    by_cases c1 : (rd_T35 l i).f1 > 512
    · refine Ev.step (f := fun _ => some false) (fun k => ?_) (by
        have : ¬ ((rd_T35 l i).f1 ≤ 512 ∧ (rd_T35 l i).f0 ≤ 512 - (rd_T35 l i).f1) := by omega
        simp only [allB, endsI, this, decide_false, Bool.false_and]; exact Ev.now _)
      simp only [blocks_fits.l0]
      rw [if_pos hi, if_pos h0, if_pos hi, if_pos c1]
    · by_cases c2 : (rd_T35 l i).f0 > 512 - (rd_T35 l i).f1
      · refine Ev.step (f := fun _ => some false) (fun k => ?_) (by
          have : ¬ ((rd_T35 l i).f1 ≤ 512 ∧ (rd_T35 l i).f0 ≤ 512 - (rd_T35 l i).f1) := by omega
          simp only [allB, endsI, this, decide_false, Bool.false_and]; exact Ev.now _)
        simp only [blocks_fits.l0]
        rw [if_pos hi, if_pos h0, if_pos hi, if_neg c1, e, if_pos c2]
      · refine Ev.step (f := fun k => blocks_fits.l0 k l (l.length : Int) (i + 1)) (fun k => ?_) (by
          have : (rd_T35 l i).f1 ≤ 512 ∧ (rd_T35 l i).f0 ≤ 512 - (rd_T35 l i).f1 := by omega
          simp only [allB]
          rw [show endsI l i = true from decide_eq_true this, Bool.true_and]
          exact ih (i + 1) (by omega) (by omega))
        simp only [blocks_fits.l0]
        rw [if_pos hi, if_pos h0, if_pos hi, if_neg c1, e, if_neg c2, hw]

theorem fits_ev (l : List R) (hl : (l.length : Int) ≤ 140737488351232) : Ev (fun k => blocks_fits.f k l) (fits l) := by
  by_cases h : (l.length : Int) > 512
  · refine Ev.congr (f := fun k => blocks_fits.j0 k l true) (fun k => by rw [blocks_fits.f, if_pos h]) ?_
    refine Ev.step (f := fun _ => some false) (fun k => by simp only [blocks_fits.j0, if_true]) ?_
    have e : fits l = false := by unfold fits; rw [decide_eq_false (by omega)]; rfl
    rw [e]; exact Ev.now _
  · refine Ev.congr (f := fun k => (span_Form.f k l).bind fun t105 => blocks_fits.j0 k l (!t105)) (fun k => by rw [blocks_fits.f, if_neg h]) ?_
    refine Ev.bind (form_ev l hl) ?_
    cases hf : form l with
    | false =>
      refine Ev.step (f := fun _ => some false) (fun k => by simp only [blocks_fits.j0, Bool.not_false, if_true]) ?_
      have e : fits l = false := by unfold fits; rw [hf]; simp
      rw [e]; exact Ev.now _
    | true =>
      refine Ev.step (f := fun k => blocks_fits.l0 k l (l.length : Int) 0) (fun k => by simp only [blocks_fits.j0, Bool.not_true, Bool.false_eq_true, if_false]) ?_
      have e : fits l = allB (endsI l) 0 l.length := by unfold fits; rw [hf, decide_eq_true (by omega)]; simp
      rw [e]; exact fits_loop l (by omega) hf l.length 0 (by omega) (by omega)

theorem ends_mono (l : List R) (hf : form l = true) (d : Nat) : ∀ (i : Int), 0 ≤ i → i + d < (l.length : Int) → (rd_T35 l i).f0 + (rd_T35 l i).f1 ≤ (rd_T35 l (i + d)).f0 + (rd_T35 l (i + d)).f1 := by
  induction d with
  | zero => intro i _ _; simp
  | succ d ih =>
    intro i h0 h1
    have h2 := ih i h0 (by omega)
    obtain ⟨g, a⟩ := form_at hf (show 0 ≤ i + ((d + 1 : Nat) : Int) by omega) h1
    have e : i + ((d + 1 : Nat) : Int) - 1 = i + (d : Int) := by omega
    rw [e] at a
    have := (a.resolve_left (by omega)).1
    have := g.2.2.2.2.1
    omega

/-! ### Valid -/
theorem fits_parts {l : List R} (h : fits l = true) : (l.length : Int) ≤ 512 ∧ form l = true ∧ ∀ i, 0 ≤ i → i < (l.length : Int) → good1 (rd_T35 l i) ∧ (rd_T35 l i).f1 ≤ 512 ∧ (rd_T35 l i).f0 ≤ 512 - (rd_T35 l i).f1 := by
  unfold fits at h
  rw [Bool.and_eq_true, Bool.and_eq_true] at h
  obtain ⟨h1, h2, h3⟩ := h
  refine ⟨of_decide_eq_true h1, h2, fun i h0 hi => ⟨(form_at h2 h0 hi).1, ?_⟩⟩
  exact of_decide_eq_true (allB_true h3 i h0 (by omega))

theorem tdiv_of {a b : Int} (h : 0 ≤ a) : Int.tdiv a b = a / b := Int.tdiv_eq_ediv_of_nonneg h
theorem tmod_of {a b : Int} (h : 0 ≤ a) : Int.tmod a b = a % b := Int.tmod_eq_emod_of_nonneg h

/-- one run's pages counted, from page j on -/
def bump (pages ph : Int) (v : List Int) (j : Int) : Nat → List Int
  | 0 => v
  | d + 1 => bump pages ph (v.set ((ph + j) / pages).toNat (wrap64 (rd v ((ph + j) / pages) + 1))) (j + 1) d
theorem bump_length (pages ph : Int) (d : Nat) : ∀ (v : List Int) (j : Int), (bump pages ph v j d).length = v.length := by
  induction d with
  | zero => intro v j; rfl
  | succ d ih => intro v j; rw [bump, ih]; simp
theorem place {n pages ph j : Int} (hp : 1 ≤ pages) (hp2 : pages ≤ 32) (h0 : 0 ≤ ph) (hj : 0 ≤ j) (hin : ph + j < n * pages) (hn : n ≤ 64) :
    wrap64 (Int.tdiv (wrap64 (ph + j)) pages) = (ph + j) / pages ∧ 0 ≤ (ph + j) / pages ∧ (ph + j) / pages < n := by
  have hb : n * pages ≤ 64 * 32 := Int.le_trans (Int.mul_le_mul_of_nonneg_right hn (by omega)) (Int.mul_le_mul_of_nonneg_left hp2 (by omega))
  have e : wrap64 (ph + j) = ph + j := wr (by omega) (by omega)
  have h1 : 0 ≤ (ph + j) / pages := Int.ediv_nonneg (by omega) (by omega)
  have h2 : (ph + j) / pages < n := Int.ediv_lt_of_lt_mul (by omega) hin
  rw [e, tdiv_of (by omega)]
  exact ⟨wr (by omega) (by omega), h1, h2⟩

theorem bump_prog (n pages : Int) (l : List R) (x : R) (len i : Int) (hp : 1 ≤ pages) (hp2 : pages ≤ 32) (hn : n ≤ 64) (h0 : 0 ≤ x.f2) (hin : x.f2 + x.f1 ≤ n * pages) (hx : x.f1 ≤ 512)
    (r : List Int × Int) (d : Nat) : ∀ (v : List Int) (j : Int), (v.length : Int) = n → 0 ≤ j → x.f1 - j = d →
    Ev (fun k => blocks_Valid.l0 k n pages (bump pages x.f2 v j d) l len (wrap64 (i + 1))) r → Ev (fun k => blocks_Valid.l1 k n pages v l len i x.f1 j x.f0 x.f1 x.f2) r := by
  induction d with
  | zero =>
    intro v j hv hj hd h
    refine Ev.step (fun k => ?_) h
    simp only [blocks_Valid.l1, bump]
    rw [if_neg (by omega)]
  | succ d ih =>
    intro v j hv hj hd h
    obtain ⟨e, e0, e1⟩ := place hp hp2 h0 hj (show x.f2 + j < n * pages by omega) hn
    refine Ev.step (fun k => ?_) (ih (v.set ((x.f2 + j) / pages).toNat (wrap64 (rd v ((x.f2 + j) / pages) + 1))) (j + 1) (by simpa using hv) (by omega) (by omega) h)
    simp only [blocks_Valid.l1]
    rw [if_pos (by omega), if_neg (by omega), e, if_pos e0, if_pos (by omega), wr1 hj (show j < 513 by omega) (by omega)]

/-- all runs counted, from run i on -/
def count (pages : Int) (l : List R) (v : List Int) (i : Int) : Nat → List Int
  | 0 => v
  | d + 1 => count pages l (bump pages (rd_T35 l i).f2 v 0 (rd_T35 l i).f1.toNat) (i + 1) d
/-- run i lies inside -/
def insI (l : List R) (m : Int) (i : Int) : Bool := decide ((rd_T35 l i).f2 + (rd_T35 l i).f1 ≤ m)

theorem mul_le {n pages : Int} (h0 : 1 ≤ n) (hn : n ≤ 64) (hp : 1 ≤ pages) (hp2 : pages ≤ 32) : 1 ≤ n * pages ∧ n * pages ≤ 2048 := by
  have hb : n * pages ≤ 64 * 32 := Int.le_trans (Int.mul_le_mul_of_nonneg_right hn (by omega)) (Int.mul_le_mul_of_nonneg_left hp2 (by omega))
  have hc : 1 * 1 ≤ n * pages := Int.mul_le_mul h0 hp (by omega) (by omega)
  omega

theorem count_prog (n pages : Int) (l : List R) (h1 : 1 ≤ n) (hn : n ≤ 64) (hp : 1 ≤ pages) (hp2 : pages ≤ 32) (hf : fits l = true) (d : Nat) : ∀ (v : List Int) (i : Int), (v.length : Int) = n → 0 ≤ i → (l.length : Int) - i = d →
    Ev (fun k => blocks_Valid.l0 k n pages v l (l.length : Int) i) (if allB (insI l (n * pages)) i d = true then (count pages l v i d, 0) else ([], 1)) := by
  obtain ⟨hl, hform, hall⟩ := fits_parts hf
  obtain ⟨hm0, hm1⟩ := mul_le h1 hn hp hp2
  have hw : wrap64 (n * pages) = n * pages := wr (by omega) (by omega)
  induction d with
  | zero =>
    intro v i hv h0 hd
    refine Ev.step (fun k => ?_) (Ev.now _)
    simp only [blocks_Valid.l0, allB, count]
    rw [if_neg (by omega)]
    simp
  | succ d ih =>
    intro v i hv h0 hd
    have hi : i < (l.length : Int) := by omega
    obtain ⟨⟨a0, a1, a2, a3, a4, a5⟩, a6, a7⟩ := hall i h0 hi
    have hwi := wr1 h0 hi (by omega)
    have key : Ev (fun k => blocks_Valid.j2 k n pages v l (l.length : Int) i (!insI l (n * pages) i) (rd_T35 l i).f0 (rd_T35 l i).f1 (rd_T35 l i).f2) (if allB (insI l (n * pages)) i (d + 1) = true then (count pages l v i (d + 1), 0) else ([], 1)) := by
      cases hI : insI l (n * pages) i with
      | false =>
        simp only [allB, hI, Bool.false_and, Bool.false_eq_true, if_false]
        exact Ev.step (fun k => by simp only [blocks_Valid.j2, Bool.not_false, if_true]) (Ev.now _)
      | true =>
        simp only [allB, hI, Bool.true_and, count]
        refine Ev.step (f := fun k => blocks_Valid.l1 k n pages v l (l.length : Int) i (rd_T35 l i).f1 0 (rd_T35 l i).f0 (rd_T35 l i).f1 (rd_T35 l i).f2) (fun k => by simp only [blocks_Valid.j2, Bool.not_true, Bool.false_eq_true, if_false]) ?_
        refine bump_prog n pages l (rd_T35 l i) _ i hp hp2 hn a2 (of_decide_eq_true hI) a6 _ (rd_T35 l i).f1.toNat v 0 hv (by omega) (by omega) ?_
        rw [hwi]
        exact ih _ (i + 1) (by rw [bump_length]; exact hv) (by omega) (by omega)
    have hw2 : ∀ h : (rd_T35 l i).f2 < n * pages, wrap64 (n * pages - (rd_T35 l i).f2) = n * pages - (rd_T35 l i).f2 := fun h => wr (by omega) (by omega)
    refine Ev.step (fun k => ?_) key
    simp only [blocks_Valid.l0]
    rw [if_pos hi, if_pos h0, if_pos hi, hw]
    by_cases c : (rd_T35 l i).f2 ≥ n * pages
    · rw [if_pos c]
      have : insI l (n * pages) i = false := decide_eq_false (by omega)
      rw [this]; rfl
    · rw [if_neg c, hw2 (by omega)]
      have : (!insI l (n * pages) i) = decide ((rd_T35 l i).f1 > n * pages - (rd_T35 l i).f2) := by
        unfold insI
        by_cases c2 : (rd_T35 l i).f2 + (rd_T35 l i).f1 ≤ n * pages
        · rw [decide_eq_true c2, decide_eq_false (by omega)]; rfl
        · rw [decide_eq_false c2, decide_eq_true (by omega)]; rfl
      rw [this]

/-- what Valid tells -/
def validR (l : List R) (n pages : Int) : List Int × Int :=
  if 1 ≤ n ∧ n ≤ 64 ∧ 1 ≤ pages ∧ pages ≤ 32 ∧ fits l = true ∧ allB (insI l (n * pages)) 0 l.length = true then (count pages l (List.replicate n.toNat 0) 0 l.length, 0) else ([], 1)

theorem valid_ev (l : List R) (n pages : Int) (hl : (l.length : Int) ≤ 140737488351232) : Ev (fun k => blocks_Valid.f k l n pages) (validR l n pages) := by
  have out : ∀ (h : ¬ (1 ≤ n ∧ n ≤ 64 ∧ 1 ≤ pages ∧ pages ≤ 32 ∧ fits l = true ∧ allB (insI l (n * pages)) 0 l.length = true)), Ev (fun k => blocks_Valid.j0 k l n pages true) (validR l n pages) := by
    intro h
    unfold validR
    rw [if_neg h]
    exact Ev.step (fun k => by simp only [blocks_Valid.j0, if_true]) (Ev.now _)
  by_cases c1 : n < 1
  · exact Ev.congr (fun k => by rw [blocks_Valid.f, if_pos c1]) (out (by omega))
  by_cases c2 : n > 64
  · exact Ev.congr (fun k => by rw [blocks_Valid.f, if_neg c1, if_pos c2]) (out (by omega))
  by_cases c3 : pages < 1
  · exact Ev.congr (fun k => by rw [blocks_Valid.f, if_neg c1, if_neg c2, if_pos c3]) (out (by omega))
  by_cases c4 : pages > 32
  · exact Ev.congr (fun k => by rw [blocks_Valid.f, if_neg c1, if_neg c2, if_neg c3, if_pos c4]) (out (by omega))
  refine Ev.congr (f := fun k => (blocks_fits.f k l).bind fun t => blocks_Valid.j0 k l n pages (!t)) (fun k => by rw [blocks_Valid.f, if_neg c1, if_neg c2, if_neg c3, if_neg c4]) ?_
  refine Ev.bind (fits_ev l hl) ?_
  cases hf : fits l with
  | false => exact out (by rw [hf]; simp)
  | true =>
    refine Ev.step (f := fun k => blocks_Valid.l0 k n pages (List.replicate n.toNat 0) l (l.length : Int) 0) (fun k => ?_) ?_
    · simp only [blocks_Valid.j0, Bool.not_true, Bool.false_eq_true, if_false]
      rw [if_pos (by omega), if_pos (by omega)]
    · have := count_prog n pages l (by omega) (by omega) (by omega) (by omega) hf l.length (List.replicate n.toNat 0) 0 (by simp; omega) (by omega) (by omega)
      unfold validR
      rw [hf]
      by_cases ha : allB (insI l (n * pages)) 0 l.length = true
      · rw [if_pos ⟨by omega, by omega, by omega, by omega, rfl, ha⟩]
        rw [if_pos ha] at this
        exact this
      · rw [if_neg (fun h => ha h.2.2.2.2.2)]
        rw [if_neg ha] at this
        exact this

/-! ### Inside -/
theorem inside_loop (l : List R) (m : Int) (hm0 : 0 ≤ m) (hm : m ≤ 1073741824) (hl : (l.length : Int) ≤ 512) (hall : ∀ i, 0 ≤ i → i < (l.length : Int) → good1 (rd_T35 l i)) (d : Nat) : ∀ (i : Int), 0 ≤ i → (l.length : Int) - i = d →
    Ev (fun k => ferruleref13_Inside.l0 k l m i) (allB (insI l m) i d) := by
  induction d with
  | zero =>
    intro i h0 hd
    refine Ev.step (fun k => ?_) (Ev.now _)
    simp only [ferruleref13_Inside.l0, allB]
    rw [if_neg (by omega)]
  | succ d ih =>
    intro i h0 hd
    have hi : i < (l.length : Int) := by omega
    obtain ⟨a0, a1, a2, a3, a4, a5⟩ := hall i h0 hi
    have hwi := wr1 h0 hi (by omega)
    have e : wrap64 (m - (rd_T35 l i).f2) = m - (rd_T35 l i).f2 := wr (by omega) (by omega)
    by_cases c : (rd_T35 l i).f2 > m
    · refine Ev.step (f := fun _ => some false) (fun k => by simp only [ferruleref13_Inside.l0]; rw [if_pos hi, if_pos h0, if_pos c]) ?_
      rw [show allB (insI l m) i (d + 1) = false by simp only [allB]; rw [show insI l m i = false from decide_eq_false (by omega)]; rfl]
      exact Ev.now _
    · by_cases c2 : (rd_T35 l i).f1 > m - (rd_T35 l i).f2
      · refine Ev.step (f := fun _ => some false) (fun k => by simp only [ferruleref13_Inside.l0]; rw [if_pos hi, if_pos h0, if_neg c, e, if_pos c2]) ?_
        rw [show allB (insI l m) i (d + 1) = false by simp only [allB]; rw [show insI l m i = false from decide_eq_false (by omega)]; rfl]
        exact Ev.now _
      · refine Ev.step (f := fun k => ferruleref13_Inside.l0 k l m (i + 1)) (fun k => by simp only [ferruleref13_Inside.l0]; rw [if_pos hi, if_pos h0, if_neg c, e, if_neg c2, hwi]) ?_
        rw [show allB (insI l m) i (d + 1) = allB (insI l m) (i + 1) d by simp only [allB]; rw [show insI l m i = true from decide_eq_true (by omega)]; rfl]
        exact ih (i + 1) (by omega) (by omega)
theorem inside_ev (l : List R) (m : Int) (hm0 : 0 ≤ m) (hm : m ≤ 1073741824) (hf : fits l = true) : Ev (fun k => ferruleref13_Inside.f k l m) (allB (insI l m) 0 l.length) :=
  Ev.congr (fun k => by rw [ferruleref13_Inside.f]) (inside_loop l m hm0 hm (fits_parts hf).1 (fun i h0 hi => ((fits_parts hf).2.2 i h0 hi).1) l.length 0 (by omega) (by omega))

/-! ### Equal lists -/
theorem rd_eq_of {a b : List Int} (hl : a.length = b.length) (h : ∀ i : Int, 0 ≤ i → i < (a.length : Int) → rd a i = rd b i) : a = b := by
  apply List.ext_getElem hl
  intro i h1 h2
  have := h (i : Int) (by omega) (by omega)
  simpa [rd, h1, h2] using this
theorem same_loop (a : List R) (hl : (a.length : Int) ≤ 140737488351232) (d : Nat) : ∀ (i : Int), 0 ≤ i → (a.length : Int) - i = d → Ev (fun k => ferruleref9_Same.l0 k a a i) true := by
  induction d with
  | zero => intro i h0 hd; exact Ev.step (fun k => by simp only [ferruleref9_Same.l0]; rw [if_neg (by omega)]) (Ev.now _)
  | succ d ih =>
    intro i h0 hd
    have hi : i < (a.length : Int) := by omega
    refine Ev.step (fun k => ?_) (ih (i + 1) (by omega) (by omega))
    simp only [ferruleref9_Same.l0]
    rw [if_pos hi, if_pos h0, if_pos hi, wr1 h0 hi hl]
    simp
theorem same_ev (a : List R) (hl : (a.length : Int) ≤ 140737488351232) : Ev (fun k => ferruleref9_Same.f k a a) true :=
  Ev.congr (fun k => by rw [ferruleref9_Same.f, if_pos rfl]) (same_loop a hl a.length 0 (by omega) (by omega))

/-! ### Split -/
def rn (a b c : Int) : R := ⟨a, b, c⟩
/-- a run cut where blocks end; fuel: its length -/
def cuts (pages : Int) : Nat → Int → Int → Int → List R
  | 0, _, _, _ => []
  | d + 1, lba, len, ph => if len ≤ 0 then [] else rn lba (min len (pages - ph % pages)) ph :: cuts pages d (lba + min len (pages - ph % pages)) (len - min len (pages - ph % pages)) (ph + min len (pages - ph % pages))
theorem cuts_more (pages : Int) (hp : 1 ≤ pages) (d : Nat) : ∀ (e : Nat) (lba len ph : Int), len ≤ d → d ≤ e → cuts pages e lba len ph = cuts pages d lba len ph := by
  induction d with
  | zero =>
    intro e lba len ph h1 h2
    cases e with
    | zero => rfl
    | succ e => simp only [cuts]; rw [if_pos (by omega)]
  | succ d ih =>
    intro e lba len ph h1 h2
    obtain ⟨e, rfl⟩ : ∃ q, e = q + 1 := ⟨e - 1, by omega⟩
    rw [cuts, cuts]
    by_cases c : len ≤ 0
    · rw [if_pos c, if_pos c]
    · rw [if_neg c, if_neg c]
      have hm : 0 ≤ ph % pages ∧ ph % pages < pages := ⟨Int.emod_nonneg _ (by omega), Int.emod_lt_of_pos _ (by omega)⟩
      rw [ih e _ _ _ (by omega) (by omega)]
/-- .. page by page: the part at hand, and the pages left -/
def grow (pages : Int) (a c b : Int) : Nat → List R
  | 0 => [rn a c b]
  | d + 1 => if (b + c) % pages = 0 then rn a c b :: grow pages (a + c) 1 (b + c) d else grow pages a (c + 1) b d
theorem grow_to (pages : Int) (hp : 1 ≤ pages) (a b : Int) (hb : 0 ≤ b) (m : Nat) : ∀ (c : Int) (d : Nat), 1 ≤ c → c + m ≤ pages - b % pages → grow pages a c b (m + d) = grow pages a (c + m) b d := by
  induction m with
  | zero => intro c d _ _; simp
  | succ m ih =>
    intro c d h1 h2
    rw [show m + 1 + d = (m + d) + 1 by omega, grow]
    have hm : 0 ≤ b % pages ∧ b % pages < pages := ⟨Int.emod_nonneg _ (by omega), Int.emod_lt_of_pos _ (by omega)⟩
    have hne : ¬ (b + c) % pages = 0 := by
      have e : (b + c) % pages = b % pages + c := by
        rw [Int.add_emod, Int.emod_eq_of_lt (show 0 ≤ c by omega) (by omega), Int.emod_eq_of_lt (by omega) (by omega)]
      omega
    rw [if_neg hne, ih (c + 1) d (by omega) (by omega)]
    congr 1; omega
theorem grow_cuts (pages : Int) (hp : 1 ≤ pages) (n : Nat) : ∀ (d : Nat) (a b : Int), d ≤ n → 0 ≤ b → grow pages a 1 b d = cuts pages (d + 1) a ((d : Int) + 1) b := by
  induction n with
  | zero =>
    intro d a b hd hb
    obtain rfl : d = 0 := by omega
    have hm : 0 ≤ b % pages ∧ b % pages < pages := ⟨Int.emod_nonneg _ (by omega), Int.emod_lt_of_pos _ (by omega)⟩
    have e : min (((0 : Nat) : Int) + 1) (pages - b % pages) = 1 := by omega
    rw [cuts, if_neg (by omega), e]
    rfl
  | succ n ih =>
    intro d a b hd hb
    have hm : 0 ≤ b % pages ∧ b % pages < pages := ⟨Int.emod_nonneg _ (by omega), Int.emod_lt_of_pos _ (by omega)⟩
    rw [cuts, if_neg (by omega)]
    by_cases c : (d : Int) + 1 ≤ pages - b % pages
    · have e : min ((d : Int) + 1) (pages - b % pages) = (d : Int) + 1 := by omega
      rw [e]
      have g := grow_to pages hp a b hb d 1 0 (by omega) (by omega)
      rw [Nat.add_zero] at g
      rw [g, grow, show (1 : Int) + d = d + 1 by omega, show (d : Int) + 1 - (d + 1) = 0 by omega]
      congr 1
      cases d with
      | zero => rfl
      | succ d => rw [cuts, if_pos (by omega)]
    · have e : min ((d : Int) + 1) (pages - b % pages) = pages - b % pages := by omega
      rw [e]
      generalize hq : pages - b % pages = q at *
      obtain ⟨m, hm2⟩ : ∃ m : Nat, (m : Int) = q - 1 := ⟨(q - 1).toNat, by omega⟩
      obtain ⟨r, hr⟩ : ∃ r : Nat, d = m + (r + 1) := ⟨d - m - 1, by omega⟩
      have g := grow_to pages hp a b hb m 1 (r + 1) (by omega) (by omega)
      rw [hr, g, show (1 : Int) + m = q by omega, grow]
      have hz : (b + q) % pages = 0 := by
        have h1 : b + q = pages * (b / pages + 1) := by
          have := Int.mul_ediv_add_emod b pages
          rw [Int.mul_add]; omega
        rw [h1, Int.mul_emod_right]
      rw [if_pos hz, ih r (a + q) (b + q) (by omega) (by omega)]
      congr 1
      rw [← cuts_more pages hp (r + 1) (m + (r + 1)) (a + q) _ (b + q) (by omega) (by omega)]
      congr 1
      omega

theorem cuts_len (pages : Int) (hp : 1 ≤ pages) (d : Nat) : ∀ (lba len ph : Int), ((cuts pages d lba len ph).length : Int) ≤ d := by
  induction d with
  | zero => intro _ _ _; simp [cuts]
  | succ d ih =>
    intro lba len ph
    rw [cuts]
    split
    · simp; omega
    · have := ih (lba + min len (pages - ph % pages)) (len - min len (pages - ph % pages)) (ph + min len (pages - ph % pages))
      simp only [List.length_cons]; omega

theorem split_one (pages : Int) (hp : 1 ≤ pages) (hp2 : pages ≤ 32) (l : List R) (len i : Int) (r : List R × Int) (d : Nat) : ∀ (out : List R) (a c b : Int), c ≤ d → 0 ≤ a → a ≤ 1048576 → 0 ≤ c → c ≤ 512 → 0 ≤ b → a + c ≤ 1048576 → b + c ≤ 1073741824 → (out.length : Int) + d ≤ 1000000000 →
    Ev (fun k => blocks_Split.l1 k pages (out ++ cuts pages d a c b) l len (wrap64 (i + 1))) r → Ev (fun k => blocks_Split.l2 k pages out l len i a c b) r := by
  induction d with
  | zero =>
    intro out a c b hd ha ha2 hc hc2 hb h1 h2 ho h
    refine Ev.step (fun k => ?_) h
    simp only [blocks_Split.l2, cuts]
    rw [if_neg (by omega), List.append_nil]
  | succ d ih =>
    intro out a c b hd ha ha2 hc hc2 hb h1 h2 ho h
    by_cases hc0 : c ≤ 0
    · refine Ev.step (fun k => ?_) h
      simp only [blocks_Split.l2, cuts]
      rw [if_neg (by omega), if_pos hc0, List.append_nil]
    · have hm : 0 ≤ b % pages ∧ b % pages < pages := ⟨Int.emod_nonneg _ (by omega), Int.emod_lt_of_pos _ (by omega)⟩
      have ew : mn c (wrap64 (pages - Int.tmod b pages)) = min c (pages - b % pages) := by
        rw [tmod_of hb, wr (show -9223372036854775808 ≤ pages - b % pages by omega) (by omega)]
        unfold mn; omega
      rw [cuts, if_neg hc0] at h
      generalize hq : min c (pages - b % pages) = q at h
      have hq1 : 1 ≤ q ∧ q ≤ c := by omega
      have h' := ih (out ++ [rn a q b]) (a + q) (c - q) (b + q) (by omega) (by omega) (by omega) (by omega) (by omega) (by omega) (by omega) (by omega) (by simp; omega) (by simpa using h)
      refine Ev.step (fun k => ?_) h'
      simp only [blocks_Split.l2]
      rw [if_pos (by omega), if_neg (by omega), if_pos (by omega), ew, hq, wr (show -9223372036854775808 ≤ a + q by omega) (by omega), wr (show -9223372036854775808 ≤ c - q by omega) (by omega), wr (show -9223372036854775808 ≤ b + q by omega) (by omega)]
      rfl

/-- what Split tells -/
def split (pages : Int) (l : List R) (i : Int) : Nat → List R
  | 0 => []
  | d + 1 => cuts pages (rd_T35 l i).f1.toNat (rd_T35 l i).f0 (rd_T35 l i).f1 (rd_T35 l i).f2 ++ split pages l (i + 1) d
def lowI (l : List R) (i : Int) : Bool := decide ((rd_T35 l i).f2 ≤ 1048576)

theorem split_len (pages : Int) (hp : 1 ≤ pages) (l : List R) (hall : ∀ i, 0 ≤ i → i < (l.length : Int) → (rd_T35 l i).f1 ≤ 512) (d : Nat) : ∀ (i : Int), 0 ≤ i → (l.length : Int) - i = d → ((split pages l i d).length : Int) ≤ 512 * d := by
  induction d with
  | zero => intro i _ _; simp [split]
  | succ d ih =>
    intro i h0 hd
    rw [split, List.length_append]
    have h1 := cuts_len pages hp (rd_T35 l i).f1.toNat (rd_T35 l i).f0 (rd_T35 l i).f1 (rd_T35 l i).f2
    have h2 := ih (i + 1) (by omega) (by omega)
    have h3 := hall i h0 (by omega)
    omega

theorem split_loop (pages : Int) (hp : 1 ≤ pages) (hp2 : pages ≤ 32) (l : List R) (hf : fits l = true) (hlow : allB (lowI l) 0 l.length = true) (d : Nat) : ∀ (out : List R) (i : Int), 0 ≤ i → (l.length : Int) - i = d → (out.length : Int) ≤ 512 * i →
    Ev (fun k => blocks_Split.l1 k pages out l (l.length : Int) i) (out ++ split pages l i d, 0) := by
  obtain ⟨hl, hform, hall⟩ := fits_parts hf
  induction d with
  | zero =>
    intro out i h0 hd ho
    refine Ev.step (fun k => ?_) (Ev.now _)
    simp only [blocks_Split.l1, split]
    rw [if_neg (by omega), List.append_nil]
  | succ d ih =>
    intro out i h0 hd ho
    have hi : i < (l.length : Int) := by omega
    obtain ⟨⟨a0, a1, a2, a3, a4, a5⟩, a6, a7⟩ := hall i h0 hi
    have hlo : (rd_T35 l i).f2 ≤ 1048576 := of_decide_eq_true (allB_true hlow i h0 (by omega))
    refine Ev.step (f := fun k => blocks_Split.l2 k pages out l (l.length : Int) i (rd_T35 l i).f0 (rd_T35 l i).f1 (rd_T35 l i).f2) (fun k => by simp only [blocks_Split.l1]; rw [if_pos hi, if_pos h0, if_pos hi]) ?_
    refine split_one pages hp hp2 l _ i _ (rd_T35 l i).f1.toNat out _ _ _ (by omega) a0 (by omega) (by omega) a6 a2 (by omega) (by omega) (by omega) ?_
    rw [wr1 h0 hi (by omega), split, ← List.append_assoc]
    have hc := cuts_len pages hp (rd_T35 l i).f1.toNat (rd_T35 l i).f0 (rd_T35 l i).f1 (rd_T35 l i).f2
    exact ih _ (i + 1) (by omega) (by omega) (by rw [List.length_append]; omega)

theorem low_loop (pages : Int) (l : List R) (hl : (l.length : Int) ≤ 512) (r : List R × Int) (d : Nat) : ∀ (i : Int), 0 ≤ i → (l.length : Int) - i = d →
    (allB (lowI l) i d = true → Ev (fun k => blocks_Split.l1 k pages [] l (l.length : Int) 0) r) → (allB (lowI l) i d = false → r = ([], 1)) →
    Ev (fun k => blocks_Split.l0 k l pages l (l.length : Int) i) r := by
  induction d with
  | zero =>
    intro i h0 hd h1 h2
    refine Ev.step (fun k => ?_) (h1 rfl)
    simp only [blocks_Split.l0]
    rw [if_neg (by omega)]
  | succ d ih =>
    intro i h0 hd h1 h2
    have hi : i < (l.length : Int) := by omega
    by_cases c : (rd_T35 l i).f2 > 1048576
    · have e : allB (lowI l) i (d + 1) = false := by simp only [allB]; rw [show lowI l i = false from decide_eq_false (by omega)]; rfl
      rw [h2 e]
      exact Ev.step (fun k => by simp only [blocks_Split.l0]; rw [if_pos hi, if_pos h0, if_pos hi, if_pos c]) (Ev.now _)
    · have e : allB (lowI l) i (d + 1) = allB (lowI l) (i + 1) d := by simp only [allB]; rw [show lowI l i = true from decide_eq_true (by omega)]; rfl
      rw [e] at h1 h2
      exact Ev.step (fun k => by simp only [blocks_Split.l0]; rw [if_pos hi, if_pos h0, if_pos hi, if_neg c, wr1 h0 hi (by omega)]) (ih (i + 1) (by omega) (by omega) h1 h2)

def splitOk (l : List R) (pages : Int) : Prop := 1 ≤ pages ∧ pages ≤ 32 ∧ fits l = true ∧ allB (lowI l) 0 l.length = true
instance (l : List R) (pages : Int) : Decidable (splitOk l pages) := by unfold splitOk; exact inferInstance
def splitR (l : List R) (pages : Int) : List R × Int := if splitOk l pages then (split pages l 0 l.length, 0) else ([], 1)

theorem split_ev (l : List R) (pages : Int) (hl : (l.length : Int) ≤ 140737488351232) : Ev (fun k => blocks_Split.f k l pages) (splitR l pages) := by
  have out : ∀ (h : ¬ splitOk l pages), Ev (fun k => blocks_Split.j0 k l pages true) (splitR l pages) := by
    intro h
    unfold splitR
    rw [if_neg h]
    exact Ev.step (fun k => by simp only [blocks_Split.j0, if_true]) (Ev.now _)
  by_cases c3 : pages < 1
  · exact Ev.congr (fun k => by rw [blocks_Split.f, if_pos c3]) (out (fun h => by have := h.1; omega))
  by_cases c4 : pages > 32
  · exact Ev.congr (fun k => by rw [blocks_Split.f, if_neg c3, if_pos c4]) (out (fun h => by have := h.2.1; omega))
  refine Ev.congr (f := fun k => (blocks_fits.f k l).bind fun t => blocks_Split.j0 k l pages (!t)) (fun k => by rw [blocks_Split.f, if_neg c3, if_neg c4]) ?_
  refine Ev.bind (fits_ev l hl) ?_
  cases hf : fits l with
  | false => exact out (fun h => by have := h.2.2.1; rw [hf] at this; cases this)
  | true =>
    refine Ev.step (f := fun k => blocks_Split.l0 k l pages l (l.length : Int) 0) (fun k => by simp only [blocks_Split.j0, Bool.not_true, Bool.false_eq_true, if_false]) ?_
    refine low_loop pages l (fits_parts hf).1 _ l.length 0 (by omega) (by omega) (fun ha => ?_) (fun ha => ?_)
    · have := split_loop pages (by omega) (by omega) l hf ha l.length [] 0 (by omega) (by omega) (by simp)
      unfold splitR
      rw [if_pos ⟨by omega, by omega, hf, ha⟩]
      simpa using this
    · unfold splitR
      rw [if_neg (fun h => by have := h.2.2.2; rw [ha] at this; cases this)]

/-! ### The reference's Split: page by page -/
theorem rd_last (o : List R) (x : R) (n : Int) (hn : n = o.length) : rd_T35 (o ++ [x]) n = x := by
  subst hn
  simp [rd_T35]
theorem set_last (o : List R) (x y : R) (n : Int) (hn : n = o.length) : (o ++ [x]).set n.toNat y = o ++ [y] := by
  subst hn
  simp

/-! ### Moves -/
def inB (pages block : Int) (x : R) : Bool := decide (wrap64 (Int.tdiv x.f2 pages) = block)
/-- those in a block, from part i on -/
def mov (pages block : Int) (s : List R) (i : Int) : Nat → List R
  | 0 => []
  | d + 1 => (if wrap64 (Int.tdiv (rd_T35 s i).f2 pages) = block then [rn (rd_T35 s i).f0 (rd_T35 s i).f1 (rd_T35 s i).f2] else []) ++ mov pages block s (i + 1) d
theorem moves_loop (pages block : Int) (hp : 1 ≤ pages) (s : List R) (hl : (s.length : Int) ≤ 1000000000) (d : Nat) : ∀ (out : List R) (i : Int), 0 ≤ i → (s.length : Int) - i = d → (out.length : Int) ≤ i →
    Ev (fun k => blocks_Moves.l0 k block pages out s (s.length : Int) i) (out ++ mov pages block s i d, 0) := by
  induction d with
  | zero =>
    intro out i h0 hd ho
    refine Ev.step (fun k => ?_) (Ev.now _)
    simp only [blocks_Moves.l0, mov]
    rw [if_neg (by omega), List.append_nil]
  | succ d ih =>
    intro out i h0 hd ho
    have hi : i < (s.length : Int) := by omega
    by_cases c : wrap64 (Int.tdiv (rd_T35 s i).f2 pages) = block
    · have h := ih (out ++ [rn (rd_T35 s i).f0 (rd_T35 s i).f1 (rd_T35 s i).f2]) (i + 1) (by omega) (by omega) (by simp <;> omega)
      rw [mov, if_pos c, ← List.append_assoc]
      refine Ev.step (fun k => ?_) h
      simp only [blocks_Moves.l0]
      rw [if_pos hi, if_pos h0, if_pos hi, if_neg (by omega), if_pos c, if_pos (by omega), wr1 h0 hi (by omega)]
      rfl
    · have h := ih out (i + 1) (by omega) (by omega) (by omega)
      rw [mov, if_neg c, List.nil_append]
      refine Ev.step (fun k => ?_) h
      simp only [blocks_Moves.l0]
      rw [if_pos hi, if_pos h0, if_pos hi, if_neg (by omega), if_neg c, wr1 h0 hi (by omega)]
theorem split_length {l : List R} {pages : Int} (h : splitOk l pages) : ((split pages l 0 l.length).length : Int) ≤ 300000 := by
  obtain ⟨hp, hp2, hf, hlow⟩ := h
  obtain ⟨hl, hform, hall⟩ := fits_parts hf
  have := split_len pages hp l (fun i h0 hi => (hall i h0 hi).2.1) l.length 0 (by omega) (by omega)
  omega

def movesR (l : List R) (block pages : Int) : List R × Int :=
  if splitOk l pages ∧ 0 ≤ block ∧ block < 64 then (mov pages block (split pages l 0 l.length) 0 (split pages l 0 l.length).length, 0) else ([], 1)
theorem moves_ev (l : List R) (block pages : Int) (hl : (l.length : Int) ≤ 140737488351232) : Ev (fun k => blocks_Moves.f k l block pages) (movesR l block pages) := by
  have out : ∀ (x : List R) (h : ¬ (splitOk l pages ∧ 0 ≤ block ∧ block < 64)), Ev (fun k => blocks_Moves.j0 k block pages x true) (movesR l block pages) := by
    intro x h
    unfold movesR
    rw [if_neg h]
    exact Ev.step (fun k => by simp only [blocks_Moves.j0, if_true]) (Ev.now _)
  refine Ev.congr (fun k => by rw [blocks_Moves.f]) ?_
  refine Ev.bind (split_ev l pages hl) ?_
  by_cases hs : splitOk l pages
  · have e : splitR l pages = (split pages l 0 l.length, 0) := by unfold splitR; rw [if_pos hs]
    rw [e]
    refine Ev.congr (fun k => by rw [if_pos rfl]) ?_
    by_cases c1 : block < 0
    · exact Ev.congr (fun k => by rw [if_pos c1]) (out _ (by omega))
    · refine Ev.congr (fun k => by rw [if_neg c1]) ?_
      by_cases c2 : block ≥ 64
      · rw [decide_eq_true c2]; exact out _ (by omega)
      · rw [decide_eq_false c2]
        have hlen := split_length hs
        refine Ev.step (f := fun k => blocks_Moves.l0 k block pages [] (split pages l 0 l.length) ((split pages l 0 l.length).length : Int) 0) (fun k => by simp only [blocks_Moves.j0, Bool.false_eq_true, if_false]) ?_
        have := moves_loop pages block hs.1 (split pages l 0 l.length) (by omega) (split pages l 0 l.length).length [] 0 (by omega) (by omega) (by simp)
        unfold movesR
        rw [if_pos ⟨hs, by omega, by omega⟩]
        simpa using this
  · have e : splitR l pages = ([], 1) := by unfold splitR; rw [if_neg hs]
    rw [e]
    exact Ev.congr (fun k => by rw [if_neg (by decide)]) (out _ (fun h => hs h.1))
/-! ### Fold: what it tells is wholesome -/
abbrev Pc := S42
theorem new_loop (d : Nat) : ∀ (t : List Int) (i : Int), t.length = 512 → 0 ≤ i → 512 - i = d → (∀ j, 0 ≤ j → j < i → rd t j = -1) → ∃ u, Ev (fun k => ferruleref9_New.l0 k 512 t i) u ∧ u.length = 512 ∧ ∀ j, 0 ≤ j → j < 512 → rd u j = -1 := by
  induction d with
  | zero => intro t i ht h0 hd h; exact ⟨t, Ev.step (fun k => by simp only [ferruleref9_New.l0]; rw [if_neg (by omega)]) (Ev.now _), ht, fun j h1 h2 => h j h1 (by omega)⟩
  | succ d ih =>
    intro t i ht h0 hd h
    obtain ⟨u, hE, hu⟩ := ih (t.set i.toNat (-1)) (i + 1) (by simpa using ht) (by omega) (by omega) (by
      intro j h1 h2
      unfold rd
      by_cases e : j = i
      · subst e; simp [List.getD, show j.toNat < t.length by omega]
      · have := h j h1 (by omega)
        unfold rd at this
        rw [List.getD_eq_getElem?_getD, List.getElem?_set_ne (by omega), ← List.getD_eq_getElem?_getD]; exact this)
    refine ⟨u, Ev.step (fun k => ?_) hE, hu⟩
    simp only [ferruleref9_New.l0]
    rw [if_pos (by omega), if_pos h0, if_pos (by omega), wr1 h0 (show i < 512 by omega) (by omega)]
theorem new_ev : ∃ u, Ev (fun k => ferruleref9_New.f k 512) u ∧ u.length = 512 ∧ ∀ j, 0 ≤ j → j < 512 → rd u j = -1 := by
  obtain ⟨u, hE, hu⟩ := new_loop 512 (List.replicate 512 0) 0 List.length_replicate (by omega) (by omega) (fun j h0 h1 => by omega)
  exact ⟨u, Ev.congr (fun k => by rw [ferruleref9_New.f, if_pos (by omega), if_pos (by decide)]; rfl) hE, hu⟩

/-- a table of pages -/
def tab (t : List Int) : Prop := t.length = 512 ∧ ∀ j, 0 ≤ j → j < 512 → -1 ≤ rd t j ∧ rd t j ≤ 1049088
theorem rd_set (t : List Int) (i j v : Int) (hi : 0 ≤ i) (hj : 0 ≤ j) (hl : i < (t.length : Int)) : rd (t.set i.toNat v) j = if j = i then v else rd t j := by
  unfold rd
  by_cases e : j = i
  · subst e; rw [if_pos rfl]; simp [List.getD, show j.toNat < t.length by omega]
  · rw [if_neg e, List.getD_eq_getElem?_getD, List.getElem?_set_ne (by omega), ← List.getD_eq_getElem?_getD]
theorem tab_set {t : List Int} (h : tab t) {i v : Int} (h0 : 0 ≤ i) (h1 : i < 512) (v0 : -1 ≤ v) (v1 : v ≤ 1049088) : tab (t.set i.toNat v) := by
  refine ⟨by simpa using h.1, fun j j0 j1 => ?_⟩
  rw [rd_set t i j v h0 j0 (by have := h.1; omega)]
  split
  · exact ⟨v0, v1⟩
  · exact h.2 j j0 j1

theorem rd_app (o : List R) (x : R) (i : Int) (h0 : 0 ≤ i) (h1 : i < (o.length : Int)) : rd_T35 (o ++ [x]) i = rd_T35 o i := by
  unfold rd_T35
  rw [List.getD_eq_getElem?_getD, List.getElem?_append_left (by omega), ← List.getD_eq_getElem?_getD]
theorem rd_setR (o : List R) (x : R) (i j : Int) (hi : 0 ≤ i) (hj : 0 ≤ j) (hl : i < (o.length : Int)) : rd_T35 (o.set i.toNat x) j = if j = i then x else rd_T35 o j := by
  unfold rd_T35
  by_cases e : j = i
  · subst e; rw [if_pos rfl]; simp [List.getD, show j.toNat < o.length by omega]
  · rw [if_neg e, List.getD_eq_getElem?_getD, List.getElem?_set_ne (by omega), ← List.getD_eq_getElem?_getD]

/-! ### Runs of a table -/
/-- runs below n, in their form -/
def ok2 (l : List R) (n : Int) : Prop := (l.length : Int) ≤ n ∧ ∀ i, 0 ≤ i → i < (l.length : Int) → 0 ≤ (rd_T35 l i).f0 ∧ 1 ≤ (rd_T35 l i).f1 ∧ (rd_T35 l i).f0 + (rd_T35 l i).f1 ≤ n ∧ 0 ≤ (rd_T35 l i).f2 ∧ (rd_T35 l i).f2 ≤ 1049088 ∧ (0 < i → adj (rd_T35 l (i - 1)) (rd_T35 l i))
/-- what the last run is, ahead of sector i -/
def lastok (t : List Int) (o : List R) (i : Int) : Prop :=
  (i > 0 → rd t (i - 1) ≥ 0 → 0 < (o.length : Int) ∧ (rd_T35 o ((o.length : Int) - 1)).f0 + (rd_T35 o ((o.length : Int) - 1)).f1 = i ∧ (rd_T35 o ((o.length : Int) - 1)).f2 + (rd_T35 o ((o.length : Int) - 1)).f1 = rd t (i - 1) + 1) ∧
  (¬ (i > 0 ∧ rd t (i - 1) ≥ 0) → (o.length : Int) = 0 ∨ (rd_T35 o ((o.length : Int) - 1)).f0 + (rd_T35 o ((o.length : Int) - 1)).f1 < i)
theorem ok2_more {o : List R} {n : Int} (h : ok2 o n) : ok2 o (n + 1) :=
  ⟨by have := h.1; omega, fun i i0 i1 => by obtain ⟨a, b, c, d, e, f⟩ := h.2 i i0 i1; exact ⟨a, b, by omega, d, e, f⟩⟩
theorem ok2_app {t : List Int} {o : List R} {i c : Int} (h : ok2 o i) (hl : lastok t o i) (h0 : 0 ≤ i) (hc : 0 ≤ c) (hc2 : c ≤ 1049088) (hn : i > 0 → rd t (i - 1) ≥ 0 → rd t (i - 1) + 1 ≠ c) : ok2 (o ++ [(⟨i, 1, c⟩ : R)]) (i + 1) := by
  have hlen := h.1
  refine ⟨by simp; omega, fun j j0 j1 => ?_⟩
  simp only [List.length_append, List.length_cons, List.length_nil] at j1
  by_cases e : j < (o.length : Int)
  · rw [rd_app o _ j j0 e]
    obtain ⟨a, b, c, d, e', f⟩ := h.2 j j0 e
    refine ⟨a, b, by omega, d, e', fun hj => ?_⟩
    rw [rd_app o _ (j - 1) (by omega) (by omega)]
    exact f hj
  · rw [rd_last o _ j (by omega)]
    refine ⟨h0, by show (1 : Int) ≤ 1; omega, by show i + 1 ≤ i + 1; omega, hc, hc2, fun hj => ?_⟩
    have hj1 : j - 1 = (o.length : Int) - 1 := by omega
    rw [rd_app o _ (j - 1) (by omega) (by omega), hj1]
    obtain ⟨a, b, c', d, e', f⟩ := h.2 ((o.length : Int) - 1) (by omega) (by omega)
    refine ⟨c', fun ⟨q1, q2⟩ => ?_⟩
    have q1' : (rd_T35 o ((o.length : Int) - 1)).f0 + (rd_T35 o ((o.length : Int) - 1)).f1 = i := q1
    have q2' : (rd_T35 o ((o.length : Int) - 1)).f2 + (rd_T35 o ((o.length : Int) - 1)).f1 = c := q2
    by_cases g : i > 0 ∧ rd t (i - 1) ≥ 0
    · have z := (hl.1 g.1 g.2).2.2
      exact hn g.1 g.2 (by omega)
    · rcases hl.2 g with z | z <;> omega
theorem lastok_app {t : List Int} {o : List R} {i : Int} (h0 : 0 ≤ i) (hge : rd t i ≥ 0) : lastok t (o ++ [(⟨i, 1, rd t i⟩ : R)]) (i + 1) := by
  have e : ((o ++ [(⟨i, 1, rd t i⟩ : R)]).length : Int) - 1 = (o.length : Int) := by simp
  rw [show i = i + 1 - 1 by omega] at hge
  refine ⟨fun _ _ => ?_, fun h => absurd ⟨by omega, hge⟩ h⟩
  rw [e, rd_last o _ _ rfl, show i + 1 - 1 = i by omega]
  exact ⟨by simp <;> omega, rfl, rfl⟩
theorem last_set (o : List R) (x : R) (ho : 0 < (o.length : Int)) : rd_T35 (o.set ((o.length : Int) - 1).toNat x) ((o.length : Int) - 1) = x := by
  rw [rd_setR o x _ _ (by omega) (by omega) (by omega), if_pos rfl]
theorem ok2_last {o : List R} {n : Int} (h : ok2 o n) (ho : 0 < (o.length : Int)) (hn : n ≤ 1000000) (he : (rd_T35 o ((o.length : Int) - 1)).f0 + (rd_T35 o ((o.length : Int) - 1)).f1 = n) :
    ok2 (o.set ((o.length : Int) - 1).toNat (⟨(rd_T35 o ((o.length : Int) - 1)).f0, wrap64 ((rd_T35 o ((o.length : Int) - 1)).f1 + 1), (rd_T35 o ((o.length : Int) - 1)).f2⟩ : R)) (n + 1) := by
  have hlen := h.1
  refine ⟨by simp; omega, fun i i0 i1 => ?_⟩
  simp only [List.length_set] at i1
  obtain ⟨a, b, c, d, e, f⟩ := h.2 ((o.length : Int) - 1) (by omega) (by omega)
  have ew : wrap64 ((rd_T35 o ((o.length : Int) - 1)).f1 + 1) = (rd_T35 o ((o.length : Int) - 1)).f1 + 1 := wr (by omega) (by omega)
  rw [rd_setR o _ _ i (by omega) i0 (by omega), ew]
  by_cases hi : i = (o.length : Int) - 1
  · rw [if_pos hi]
    refine ⟨a, by show 1 ≤ _ + 1; omega, by show (rd_T35 o ((o.length : Int) - 1)).f0 + ((rd_T35 o ((o.length : Int) - 1)).f1 + 1) ≤ n + 1; omega, d, e, fun hj => ?_⟩
    rw [rd_setR o _ _ (i - 1) (by omega) (by omega) (by omega), if_neg (by omega)]
    have := f (by omega)
    rw [hi]
    exact ⟨this.1, this.2⟩
  · rw [if_neg hi]
    obtain ⟨a', b', c', d', e', f'⟩ := h.2 i i0 i1
    refine ⟨a', b', by omega, d', e', fun hj => ?_⟩
    rw [rd_setR o _ _ (i - 1) (by omega) (by omega) (by omega), if_neg (by omega)]
    exact f' hj
theorem ok2_form {l : List R} (h : ok2 l 512) : form l = true := by
  refine allB_of fun j j0 j1 => ?_
  obtain ⟨a, b, c, d, e, f⟩ := h.2 j j0 (by omega)
  unfold formI
  simp only [Bool.and_eq_true, Bool.or_eq_true, decide_eq_true_eq]
  refine ⟨⟨a, by omega, d, by omega, b, by omega⟩, ?_⟩
  by_cases z : j = 0
  · exact Or.inl z
  · exact Or.inr (f (by omega))
/-! ### Parts of runs: plain -/
def inP (x : R) (s : Int) : Prop := x.f0 ≤ s ∧ s < x.f0 + x.f1
theorem div_same {pages ph k : Int} (hp : 1 ≤ pages) (hk : 0 ≤ k) (h : ph % pages + k < pages) : (ph + k) / pages = ph / pages := by
  have h1 := Int.mul_ediv_add_emod ph pages
  have h2 := Int.emod_nonneg ph (show pages ≠ 0 by omega)
  have e : ph + k = (ph % pages + k) + pages * (ph / pages) := by omega
  rw [e, Int.add_mul_ediv_left _ _ (by omega), Int.ediv_eq_zero_of_lt (by omega) h, Int.zero_add]
def cnt (pages b : Int) (ph : Int) : Nat → Int
  | 0 => 0
  | d + 1 => (if ph / pages = b then 1 else 0) + cnt pages b (ph + 1) d
theorem cnt_add (pages b : Int) (m n : Nat) : ∀ ph : Int, cnt pages b ph (m + n) = cnt pages b ph m + cnt pages b (ph + m) n := by
  induction m with
  | zero => intro ph; simp [cnt]
  | succ m ih =>
    intro ph
    rw [show m + 1 + n = (m + n) + 1 by omega]
    simp only [cnt]
    rw [ih (ph + 1), show ph + 1 + (m : Int) = ph + ((m + 1 : Nat) : Int) by omega]
    omega
theorem cnt_same (pages b : Int) (q : Int) (m : Nat) : ∀ ph : Int, (∀ k : Int, 0 ≤ k → k < m → (ph + k) / pages = q) → cnt pages b ph m = if q = b then (m : Int) else 0 := by
  induction m with
  | zero => intro ph _; simp [cnt]
  | succ m ih =>
    intro ph h
    have h0 := h 0 (by omega) (by omega)
    rw [Int.add_zero] at h0
    simp only [cnt]
    rw [ih (ph + 1) (fun k k0 k1 => by rw [show ph + 1 + k = ph + (k + 1) by omega]; exact h (k + 1) (by omega) (by omega)), h0]
    split <;> omega
def sumB (pages b : Int) : List R → Int
  | [] => 0
  | x :: l => (if x.f2 / pages = b then x.f1 else 0) + sumB pages b l
theorem sumB_app (pages b : Int) (l m : List R) : sumB pages b (l ++ m) = sumB pages b l + sumB pages b m := by
  induction l with
  | nil => simp [sumB]
  | cons x l ih => simp only [List.cons_append, sumB, ih]; omega
theorem cuts_spec (pages : Int) (hp : 1 ≤ pages) (d : Nat) : ∀ (lba len ph : Int), len ≤ d → 0 ≤ ph →
    (∀ x ∈ cuts pages d lba len ph, 1 ≤ x.f1 ∧ lba ≤ x.f0 ∧ x.f0 + x.f1 ≤ lba + len ∧ x.f2 - x.f0 = ph - lba ∧ x.f2 / pages = (x.f2 + x.f1 - 1) / pages) ∧
    (∀ s, lba ≤ s → s < lba + len → ∃ x ∈ cuts pages d lba len ph, inP x s) ∧
    (cuts pages d lba len ph).Pairwise (fun x y => x.f0 + x.f1 ≤ y.f0) ∧
    (∀ b, sumB pages b (cuts pages d lba len ph) = cnt pages b ph len.toNat) := by
  induction d with
  | zero =>
    intro lba len ph hd h0
    refine ⟨fun x hx => by simp [cuts] at hx, fun s h1 h2 => by omega, by simp [cuts], fun b => ?_⟩
    rw [show len.toNat = 0 by omega]
    rfl
  | succ d ih =>
    intro lba len ph hd h0
    rw [cuts]
    by_cases c : len ≤ 0
    · rw [if_pos c]
      refine ⟨fun x hx => by simp at hx, fun s h1 h2 => by omega, List.Pairwise.nil, fun b => ?_⟩
      rw [show len.toNat = 0 by omega]
      rfl
    · rw [if_neg c]
      have hm : 0 ≤ ph % pages ∧ ph % pages < pages := ⟨Int.emod_nonneg _ (by omega), Int.emod_lt_of_pos _ (by omega)⟩
      have hq : 1 ≤ min len (pages - ph % pages) ∧ min len (pages - ph % pages) ≤ len ∧ ph % pages + min len (pages - ph % pages) ≤ pages := by omega
      generalize min len (pages - ph % pages) = q at hq
      obtain ⟨i1, i2, i3, i4⟩ := ih (lba + q) (len - q) (ph + q) (by omega) (by omega)
      refine ⟨fun x hx => ?_, fun s h1 h2 => ?_, ?_, fun b => ?_⟩
      · rcases List.mem_cons.1 hx with rfl | hx
        · refine ⟨hq.1, Int.le_refl _, by show lba + q ≤ _; omega, rfl, ?_⟩
          show ph / pages = (ph + q - 1) / pages
          rw [show ph + q - 1 = ph + (q - 1) by omega, div_same hp (by omega) (by omega)]
        · obtain ⟨a, b, c, e, f⟩ := i1 x hx
          exact ⟨a, by omega, by omega, by omega, f⟩
      · by_cases g : s < lba + q
        · exact ⟨_, List.mem_cons_self, h1, g⟩
        · obtain ⟨x, hx, hs⟩ := i2 s (by omega) (by omega)
          exact ⟨x, List.mem_cons_of_mem _ hx, hs⟩
      · refine List.Pairwise.cons (fun y hy => ?_) i3
        exact (i1 y hy).2.1
      · show (if ph / pages = b then q else 0) + sumB pages b _ = _
        rw [i4 b, show len.toNat = q.toNat + (len - q).toNat by omega, cnt_add, cnt_same pages b (ph / pages) q.toNat ph (fun k k0 k1 => div_same hp k0 (by omega)), show ((q.toNat : Nat) : Int) = q by omega]
/-- a table's runs -/
def repi (o : List R) (t : List Int) (i : Int) : Prop :=
  (∀ j, 0 ≤ j → j < (o.length : Int) → ∀ s, inP (rd_T35 o j) s → rd t s = (rd_T35 o j).f2 + (s - (rd_T35 o j).f0)) ∧ (∀ s, 0 ≤ s → s < i → rd t s ≥ 0 → ∃ j, 0 ≤ j ∧ j < (o.length : Int) ∧ inP (rd_T35 o j) s)
theorem ok2_mono {l : List R} (h : ok2 l 512) (i : Int) (h0 : 0 ≤ i) (d : Nat) : i + 1 + d < (l.length : Int) → (rd_T35 l i).f0 + (rd_T35 l i).f1 ≤ (rd_T35 l (i + 1 + d)).f0 := by
  induction d with
  | zero =>
    intro hi
    have := (h.2 (i + 1) (by omega) (by simpa using hi)).2.2.2.2.2 (by omega)
    have := this.1
    rw [show i + 1 - 1 = i by omega] at this
    simpa using this
  | succ d ih =>
    intro hi
    have h1 := ih (by omega)
    obtain ⟨_, b, _, _, _, _⟩ := h.2 (i + 1 + d) (by omega) (by omega)
    have := ((h.2 (i + 1 + ((d + 1 : Nat) : Int)) (by omega) (by omega)).2.2.2.2.2 (by omega)).1
    rw [show i + 1 + ((d + 1 : Nat) : Int) - 1 = i + 1 + d by omega] at this
    omega
theorem split_spec (pages : Int) (hp : 1 ≤ pages) (l : List R) (hok : ok2 l 512) (d : Nat) : ∀ (i : Int), 0 ≤ i → (l.length : Int) - i = d →
    (∀ x ∈ split pages l i d, 1 ≤ x.f1 ∧ x.f2 / pages = (x.f2 + x.f1 - 1) / pages ∧ ∃ j, i ≤ j ∧ j < (l.length : Int) ∧ (rd_T35 l j).f0 ≤ x.f0 ∧ x.f0 + x.f1 ≤ (rd_T35 l j).f0 + (rd_T35 l j).f1 ∧ x.f2 - x.f0 = (rd_T35 l j).f2 - (rd_T35 l j).f0) ∧
    (∀ j s, i ≤ j → j < (l.length : Int) → inP (rd_T35 l j) s → ∃ x ∈ split pages l i d, inP x s) ∧
    (split pages l i d).Pairwise (fun x y => x.f0 + x.f1 ≤ y.f0) := by
  induction d with
  | zero => intro i h0 hd; exact ⟨fun x hx => by simp [split] at hx, fun j s h1 h2 => by omega, by simp [split]⟩
  | succ d ih =>
    intro i h0 hd
    have hi : i < (l.length : Int) := by omega
    obtain ⟨x0, x1, x2, x3, x4, x5⟩ := hok.2 i h0 hi
    obtain ⟨c1, c2, c3, _⟩ := cuts_spec pages hp (rd_T35 l i).f1.toNat (rd_T35 l i).f0 (rd_T35 l i).f1 (rd_T35 l i).f2 (by omega) x3
    obtain ⟨i1, i2, i3⟩ := ih (i + 1) (by omega) (by omega)
    rw [split]
    refine ⟨fun x hx => ?_, fun j s h1 h2 hs => ?_, ?_⟩
    · rcases List.mem_append.1 hx with hx | hx
      · obtain ⟨a, b, c, e, f⟩ := c1 x hx
        exact ⟨a, f, i, Int.le_refl _, hi, b, c, e⟩
      · obtain ⟨a, b, j, j1, j2, j3⟩ := i1 x hx
        exact ⟨a, b, j, by omega, j2, j3⟩
    · by_cases e : j = i
      · subst e
        obtain ⟨x, hx, hxs⟩ := c2 s hs.1 hs.2
        exact ⟨x, List.mem_append_left _ hx, hxs⟩
      · obtain ⟨x, hx, hxs⟩ := i2 j s (by omega) h2 hs
        exact ⟨x, List.mem_append_right _ hx, hxs⟩
    · refine List.pairwise_append.2 ⟨c3, i3, fun x hx y hy => ?_⟩
      have hx3 := (c1 x hx).2.2.1
      obtain ⟨_, _, j, j1, j2, j3, _, _⟩ := i1 y hy
      have := ok2_mono hok i h0 (j - i - 1).toNat (by omega)
      rw [show i + 1 + ((j - i - 1).toNat : Int) = j by omega] at this
      omega
def csum (pages b : Int) (l : List R) (i : Int) : Nat → Int
  | 0 => 0
  | d + 1 => cnt pages b (rd_T35 l i).f2 (rd_T35 l i).f1.toNat + csum pages b l (i + 1) d
theorem split_sum (pages b : Int) (hp : 1 ≤ pages) (l : List R) (hok : ok2 l 512) (d : Nat) : ∀ (i : Int), 0 ≤ i → (l.length : Int) - i = d → sumB pages b (split pages l i d) = csum pages b l i d := by
  induction d with
  | zero => intro i _ _; rfl
  | succ d ih =>
    intro i h0 hd
    obtain ⟨x0, x1, x2, x3, x4, x5⟩ := hok.2 i h0 (by omega)
    obtain ⟨_, _, _, c4⟩ := cuts_spec pages hp (rd_T35 l i).f1.toNat (rd_T35 l i).f0 (rd_T35 l i).f1 (rd_T35 l i).f2 (by omega) x3
    rw [split, sumB_app, c4, csum, ih (i + 1) (by omega) (by omega)]
/-! ### Counts -/
theorem bump_rd (n pages ph : Int) (hp : 1 ≤ pages) (hp2 : pages ≤ 32) (hn : n ≤ 64) (h0 : 0 ≤ ph) (b : Int) (hb0 : 0 ≤ b) (hb1 : b < n) (d : Nat) : ∀ (v : List Int) (j M : Int), (v.length : Int) = n → 0 ≤ j → ph + j + d ≤ n * pages → 0 ≤ M → M + d ≤ 1000000000 →
    (∀ q, 0 ≤ q → q < n → 0 ≤ rd v q ∧ rd v q ≤ M) → rd (bump pages ph v j d) b = rd v b + cnt pages b (ph + j) d ∧ ∀ q, 0 ≤ q → q < n → 0 ≤ rd (bump pages ph v j d) q ∧ rd (bump pages ph v j d) q ≤ M + d := by
  induction d with
  | zero => intro v j M hv hj hin hM hM2 hall; exact ⟨by simp [bump, cnt], fun q q0 q1 => by have := hall q q0 q1; simp only [bump]; omega⟩
  | succ d ih =>
    intro v j M hv hj hin hM hM2 hall
    obtain ⟨_, e0, e1⟩ := place (n := n) hp hp2 h0 hj (show ph + j < n * pages by omega) hn
    have hq := hall _ e0 e1
    have ew : wrap64 (rd v ((ph + j) / pages) + 1) = rd v ((ph + j) / pages) + 1 := wr (by omega) (by omega)
    rw [bump, ew]
    obtain ⟨i1, i2⟩ := ih (v.set ((ph + j) / pages).toNat (rd v ((ph + j) / pages) + 1)) (j + 1) (M + 1) (by rw [List.length_set]; exact hv) (by omega) (by omega) (by omega) (by omega) (fun q q0 q1 => by
      rw [rd_set v _ q _ e0 q0 (by omega)]
      have := hall q q0 q1
      split <;> omega)
    refine ⟨?_, fun q q0 q1 => by have := i2 q q0 q1; omega⟩
    rw [i1, rd_set v _ b _ e0 hb0 (by omega)]
    simp only [cnt]
    rw [show ph + j + 1 = ph + (j + 1) by omega]
    by_cases c : (ph + j) / pages = b
    · rw [if_pos c.symm, if_pos c, c]; omega
    · rw [if_neg (fun h => c h.symm), if_neg c]; omega
theorem count_rd (n pages : Int) (l : List R) (hp : 1 ≤ pages) (hp2 : pages ≤ 32) (hn : n ≤ 64) (hok : ok2 l 512) (hins : allB (insI l (n * pages)) 0 l.length = true) (b : Int) (hb0 : 0 ≤ b) (hb1 : b < n) (d : Nat) : ∀ (v : List Int) (i : Int), (v.length : Int) = n → 0 ≤ i → (l.length : Int) - i = d →
    (∀ q, 0 ≤ q → q < n → 0 ≤ rd v q ∧ rd v q ≤ 512 * i) → rd (count pages l v i d) b = rd v b + csum pages b l i d := by
  have hlen := hok.1
  induction d with
  | zero => intro v i _ _ _ _; simp [count, csum]
  | succ d ih =>
    intro v i hv h0 hd hall
    have hi : i < (l.length : Int) := by omega
    obtain ⟨x0, x1, x2, x3, x4, x5⟩ := hok.2 i h0 hi
    have hin : (rd_T35 l i).f2 + (rd_T35 l i).f1 ≤ n * pages := of_decide_eq_true (allB_true hins i h0 (by omega))
    obtain ⟨i1, i2⟩ := bump_rd n pages (rd_T35 l i).f2 hp hp2 hn x3 b hb0 hb1 (rd_T35 l i).f1.toNat v 0 (512 * i) hv (by omega) (by omega) (by omega) (by omega) hall
    rw [count, ih _ (i + 1) (by rw [bump_length]; exact hv) (by omega) (by omega) (fun q q0 q1 => by have := i2 q q0 q1; omega), i1, csum, Int.add_zero]
    omega
/-! ### A block's parts -/
theorem mov_filter (pages block : Int) (hp : 1 ≤ pages) (s : List R) (hs : ∀ x ∈ s, 0 ≤ x.f2 ∧ x.f2 ≤ 1073741824) (d : Nat) : ∀ i : Int, 0 ≤ i → (s.length : Int) - i = d → mov pages block s i d = (s.drop i.toNat).filter (fun x => decide (x.f2 / pages = block)) := by
  induction d with
  | zero => intro i h0 hd; rw [List.drop_of_length_le (by omega)]; rfl
  | succ d ih =>
    intro i h0 hd
    have hin : i.toNat < s.length := by omega
    have er : rd_T35 s i = s[i.toNat] := by simp [rd_T35, hin]
    obtain ⟨f0, f1⟩ := hs s[i.toNat] (List.getElem_mem hin)
    have hle := Int.ediv_le_self (a := s[i.toNat].f2) pages f0
    have hge := Int.ediv_nonneg (a := s[i.toNat].f2) (b := pages) f0 (by omega)
    have ew : wrap64 (Int.tdiv s[i.toNat].f2 pages) = s[i.toNat].f2 / pages := by rw [tdiv_of f0, wr (by omega) (by omega)]
    rw [mov, ih (i + 1) (by omega) (by omega), er, ew, List.drop_eq_getElem_cons hin, show (i + 1).toNat = i.toNat + 1 by omega]
    by_cases c : s[i.toNat].f2 / pages = block
    · rw [if_pos c, List.filter_cons_of_pos (by simpa using c)]; rfl
    · rw [if_neg c, List.filter_cons_of_neg (by simpa using c)]; rfl
theorem sumB_filter (pages b : Int) (s : List R) : ((s.filter (fun x => decide (x.f2 / pages = b))).map (fun x => x.f1)).sum = sumB pages b s := by
  induction s with
  | nil => rfl
  | cons x s ih =>
    by_cases c : x.f2 / pages = b
    · rw [List.filter_cons_of_pos (by simpa using c)]
      simp only [List.map_cons, List.sum_cons, sumB]
      rw [ih, if_pos c]
    · rw [List.filter_cons_of_neg (by simpa using c), ih, sumB, if_neg c, Int.zero_add]
theorem repi_app {t : List Int} {o : List R} {i : Int} (h : repi o t i) (hok : ok2 o i) (h0 : 0 ≤ i) : repi (o ++ [(⟨i, 1, rd t i⟩ : R)]) t (i + 1) := by
  refine ⟨fun j j0 j1 s hs => ?_, fun s s0 s1 hs => ?_⟩
  · simp only [List.length_append, List.length_cons, List.length_nil] at j1
    by_cases e : j < (o.length : Int)
    · rw [rd_app o _ j j0 e] at hs ⊢
      exact h.1 j j0 e s hs
    · rw [rd_last o _ j (by omega)] at hs ⊢
      obtain ⟨a, b⟩ := hs
      have a' : i ≤ s := a
      have b' : s < i + 1 := b
      obtain rfl : s = i := by omega
      show rd t s = rd t s + (s - s)
      omega
  · by_cases e : s < i
    · obtain ⟨j, j0, j1, hj⟩ := h.2 s s0 e hs
      exact ⟨j, j0, by simp; omega, by rw [rd_app o _ j j0 j1]; exact hj⟩
    · obtain rfl : s = i := by omega
      refine ⟨(o.length : Int), by omega, by rw [List.length_append, List.length_singleton]; omega, ?_⟩
      rw [rd_last o _ _ rfl]
      exact ⟨Int.le_refl _, by show s < s + 1; omega⟩
theorem repi_last {t : List Int} {o : List R} {i : Int} (h : repi o t i) (hok : ok2 o i) (h0 : 0 ≤ i) (hn : i ≤ 1000000) (ho : 0 < (o.length : Int)) (he : (rd_T35 o ((o.length : Int) - 1)).f0 + (rd_T35 o ((o.length : Int) - 1)).f1 = i) (hv : (rd_T35 o ((o.length : Int) - 1)).f2 + (rd_T35 o ((o.length : Int) - 1)).f1 = rd t i) :
    repi (o.set ((o.length : Int) - 1).toNat (⟨(rd_T35 o ((o.length : Int) - 1)).f0, wrap64 ((rd_T35 o ((o.length : Int) - 1)).f1 + 1), (rd_T35 o ((o.length : Int) - 1)).f2⟩ : R)) t (i + 1) := by
  obtain ⟨x0, x1, x2, x3, x4, _⟩ := hok.2 ((o.length : Int) - 1) (by omega) (by omega)
  have ew : wrap64 ((rd_T35 o ((o.length : Int) - 1)).f1 + 1) = (rd_T35 o ((o.length : Int) - 1)).f1 + 1 := wr (by omega) (by omega)
  rw [ew]
  refine ⟨fun j j0 j1 s hs => ?_, fun s s0 s1 hs => ?_⟩
  · simp only [List.length_set] at j1
    rw [rd_setR o _ _ j (by omega) j0 (by omega)] at hs ⊢
    by_cases e : j = (o.length : Int) - 1
    · rw [if_pos e] at hs ⊢
      obtain ⟨a, b⟩ := hs
      have a' : (rd_T35 o ((o.length : Int) - 1)).f0 ≤ s := a
      have b' : s < (rd_T35 o ((o.length : Int) - 1)).f0 + ((rd_T35 o ((o.length : Int) - 1)).f1 + 1) := b
      show rd t s = (rd_T35 o ((o.length : Int) - 1)).f2 + (s - (rd_T35 o ((o.length : Int) - 1)).f0)
      by_cases g : s < i
      · exact h.1 _ (by omega) (by omega) s ⟨a', by omega⟩
      · obtain rfl : s = i := by omega
        omega
    · rw [if_neg e] at hs ⊢
      exact h.1 j j0 j1 s hs
  · by_cases e : s < i
    · obtain ⟨j, j0, j1, hj⟩ := h.2 s s0 e hs
      refine ⟨j, j0, by rw [List.length_set]; exact j1, ?_⟩
      rw [rd_setR o _ _ j (by omega) j0 (by omega)]
      by_cases g : j = (o.length : Int) - 1
      · rw [if_pos g]
        rw [g] at hj
        exact ⟨hj.1, by have := hj.2; show s < (rd_T35 o ((o.length : Int) - 1)).f0 + ((rd_T35 o ((o.length : Int) - 1)).f1 + 1); omega⟩
      · rw [if_neg g]; exact hj
    · obtain rfl : s = i := by omega
      refine ⟨(o.length : Int) - 1, by omega, by rw [List.length_set]; omega, ?_⟩
      rw [rd_setR o _ _ _ (by omega) (by omega) (by omega), if_pos rfl]
      exact ⟨by show (rd_T35 o ((o.length : Int) - 1)).f0 ≤ s; omega, by show s < (rd_T35 o ((o.length : Int) - 1)).f0 + ((rd_T35 o ((o.length : Int) - 1)).f1 + 1); omega⟩
theorem repi_skip {t : List Int} {o : List R} {i : Int} (h : repi o t i) (hneg : rd t i < 0) : repi o t (i + 1) :=
  ⟨h.1, fun s s0 s1 hs => by
    by_cases e : s = i
    · subst e; omega
    · exact h.2 s s0 (by omega) hs⟩
theorem runs_loop (t : List Int) (ht : tab t) (d : Nat) : ∀ (o : List R) (i : Int), 0 ≤ i → 512 - i = d → ok2 o i → lastok t o i → repi o t i → ∃ u, Ev (fun k => ferruleref9_Runs.l0 k t o i) u ∧ ok2 u 512 ∧ repi u t 512 := by
  induction d with
  | zero =>
    intro o i h0 hd ho _ hr
    obtain rfl : i = 512 := by omega
    exact ⟨o, Ev.step (fun k => by simp only [ferruleref9_Runs.l0]; rw [if_neg (by have := ht.1; omega)]) (Ev.now _), ho, hr⟩
  | succ d ih =>
    intro o i h0 hd ho hlast hr
    have hl := ht.1
    have hi : i < (t.length : Int) := by omega
    have hw := wr1 h0 hi (by omega)
    have hti := ht.2 i h0 (by omega)
    have hlen := ho.1
    have app : rd t i ≥ 0 → (i > 0 → rd t (i - 1) ≥ 0 → rd t (i - 1) + 1 ≠ rd t i) → ∃ u, Ev (fun k => ferruleref9_Runs.l0 k t (o ++ [(⟨i, 1, rd t i⟩ : R)]) (i + 1)) u ∧ ok2 u 512 ∧ repi u t 512 := fun hge hne =>
      ih (o ++ [(⟨i, 1, rd t i⟩ : R)]) (i + 1) (by omega) (by omega) (ok2_app ho hlast h0 hge hti.2 hne) (lastok_app h0 hge) (repi_app hr ho h0)
    by_cases c : rd t i < 0
    · obtain ⟨u, hE, hu⟩ := ih o (i + 1) (by omega) (by omega) (ok2_more ho) ⟨fun _ h => by rw [show i + 1 - 1 = i by omega] at h; omega, fun _ => by
        by_cases z : (o.length : Int) = 0
        · exact Or.inl z
        · have := (ho.2 ((o.length : Int) - 1) (by omega) (by omega)).2.2.1
          exact Or.inr (by omega)⟩ (repi_skip hr c)
      exact ⟨u, Ev.step (fun k => by simp only [ferruleref9_Runs.l0]; rw [if_pos hi, if_pos h0, if_pos c, hw]) hE, hu⟩
    · by_cases c1 : i > 0
      · have hw1 : wrap64 (i - 1) = i - 1 := wr (by omega) (by omega)
        have htp := ht.2 (i - 1) (by omega) (by omega)
        have hw2 : wrap64 (rd t (i - 1) + 1) = rd t (i - 1) + 1 := wr (by omega) (by omega)
        by_cases c2 : rd t (i - 1) ≥ 0
        · by_cases c3 : rd t (i - 1) + 1 = rd t i
          · obtain ⟨hp, hp2, hp3⟩ := hlast.1 c1 c2
            have hw3 : wrap64 ((o.length : Int) - 1) = (o.length : Int) - 1 := wr (by omega) (by omega)
            have hb := ho.2 ((o.length : Int) - 1) (by omega) (by omega)
            have ew : wrap64 ((rd_T35 o ((o.length : Int) - 1)).f1 + 1) = (rd_T35 o ((o.length : Int) - 1)).f1 + 1 := wr (by omega) (by omega)
            obtain ⟨u, hE, hu⟩ := ih _ (i + 1) (by omega) (by omega) (ok2_last ho hp (by omega) hp2) ⟨fun _ _ => by
              rw [List.length_set, last_set o _ hp, show i + 1 - 1 = i by omega]
              refine ⟨hp, ?_, ?_⟩
              · show (rd_T35 o ((o.length : Int) - 1)).f0 + wrap64 ((rd_T35 o ((o.length : Int) - 1)).f1 + 1) = i + 1
                rw [ew]; omega
              · show (rd_T35 o ((o.length : Int) - 1)).f2 + wrap64 ((rd_T35 o ((o.length : Int) - 1)).f1 + 1) = rd t i + 1
                rw [ew]; omega, fun h => by rw [show i + 1 - 1 = i by omega] at h; omega⟩ (repi_last hr ho h0 (by omega) hp hp2 (by omega))
            refine ⟨u, Ev.step (fun k => ?_) hE, hu⟩
            simp only [ferruleref9_Runs.l0]
            rw [if_pos hi, if_pos h0, if_neg c, if_pos c1, hw1, if_pos (by omega), if_pos (by omega), if_pos c2, hw2, if_pos c3, hw3, if_pos (by omega), if_pos (by omega), hw]
          · obtain ⟨u, hE, hu⟩ := app (by omega) (fun _ _ => c3)
            exact ⟨u, Ev.step (fun k => by simp only [ferruleref9_Runs.l0]; rw [if_pos hi, if_pos h0, if_neg c, if_pos c1, hw1, if_pos (by omega), if_pos (by omega), if_pos c2, hw2, if_neg c3, if_pos (by omega), hw]) hE, hu⟩
        · obtain ⟨u, hE, hu⟩ := app (by omega) (fun _ h => absurd h c2)
          exact ⟨u, Ev.step (fun k => by simp only [ferruleref9_Runs.l0]; rw [if_pos hi, if_pos h0, if_neg c, if_pos c1, hw1, if_pos (by omega), if_pos (by omega), if_neg c2, if_pos (by omega), hw]) hE, hu⟩
      · obtain ⟨u, hE, hu⟩ := app (by omega) (fun h => absurd h c1)
        exact ⟨u, Ev.step (fun k => by simp only [ferruleref9_Runs.l0]; rw [if_pos hi, if_pos h0, if_neg c, if_neg c1, if_pos (by omega), hw]) hE, hu⟩
/-- a list of runs that is a table's -/
def runs_ok (u : List R) (n : Int) : Prop := ∃ t, tab t ∧ Ev (fun k => ferruleref9_Runs.f k t) u ∧ ok2 u n ∧ repi u t n
theorem runs_ev (t : List Int) (ht : tab t) : ∃ u, Ev (fun k => ferruleref9_Runs.f k t) u ∧ runs_ok u 512 := by
  obtain ⟨u, hE, hu, hr⟩ := runs_loop t ht 512 [] 0 (by omega) (by omega) ⟨by simp, fun i h0 h1 => by simp at h1; omega⟩ ⟨fun h => by omega, fun _ => Or.inl (by simp)⟩ ⟨fun j j0 j1 => by simp at j1; omega, fun s s0 s1 => by omega⟩
  have hF : Ev (fun k => ferruleref9_Runs.f k t) u := Ev.congr (fun k => by rw [ferruleref9_Runs.f, if_pos (by omega)]; rfl) hE
  exact ⟨u, hF, t, ht, hF, hu, hr⟩
theorem fold_one (p : List Pc) (i : Int) (x : Pc) (hw : wrap64 (i + 1) = i + 1) (g0 : 0 ≤ x.f0) (g1 : x.f0 ≤ 512) (g2 : 0 ≤ x.f2) (g3 : x.f2 ≤ 1048576) (hx : x.f1 ≤ 9223372036854775807)
    (Q : List R → Prop) (d : Nat) : ∀ (t : List Int) (j : Int), tab t → 0 ≤ j → 512 - x.f0 - j = d → (∀ t, tab t → ∃ u, Ev (fun k => ferruleref9_Fold.l0 k p t (i + 1)) u ∧ Q u) →
    ∃ u, Ev (fun k => ferruleref9_Fold.l1 k p t i j x.f0 x.f1 x.f2) u ∧ Q u := by
  induction d with
  | zero =>
    intro t j ht h0 hd h
    obtain ⟨u, hE, hu⟩ := h t ht
    refine ⟨u, Ev.step (fun k => ?_) hE, hu⟩
    simp only [ferruleref9_Fold.l1]
    have e : wrap64 (x.f0 + j) = x.f0 + j := wr (by omega) (by omega)
    rw [e, if_neg (show ¬ x.f0 + j < 512 by omega), hw, ite_self]
  | succ d ih =>
    intro t j ht h0 hd h
    have e : wrap64 (x.f0 + j) = x.f0 + j := wr (by omega) (by omega)
    have e2 : wrap64 (x.f2 + j) = x.f2 + j := wr (by omega) (by omega)
    by_cases c : j < x.f1
    · obtain ⟨u, hE, hu⟩ := ih (t.set (x.f0 + j).toNat (x.f2 + j)) (j + 1) (tab_set ht (by omega) (by omega) (by omega) (by omega)) (by omega) (by omega) h
      refine ⟨u, Ev.step (fun k => ?_) hE, hu⟩
      simp only [ferruleref9_Fold.l1]
      rw [if_pos c, e, if_pos (by omega), if_pos (by omega), if_pos (by have := ht.1; omega), e2, wr1 h0 (show j < 513 by omega) (by omega)]
    · obtain ⟨u, hE, hu⟩ := h t ht
      refine ⟨u, Ev.step (fun k => ?_) hE, hu⟩
      simp only [ferruleref9_Fold.l1]
      rw [if_neg c, hw]

theorem fold_loop (p : List Pc) (hp : (p.length : Int) ≤ 140737488351232) (hall : ∀ i, 0 ≤ i → i < (p.length : Int) → (rd_T42 p i).f1 ≤ 9223372036854775807) (d : Nat) : ∀ (t : List Int) (i : Int), tab t → 0 ≤ i → (p.length : Int) - i = d →
    ∃ u, Ev (fun k => ferruleref9_Fold.l0 k p t i) u ∧ runs_ok u 512 := by
  induction d with
  | zero =>
    intro t i ht h0 hd
    obtain ⟨u, hE, hu⟩ := runs_ev t ht
    refine ⟨u, Ev.step (fun k => by simp only [ferruleref9_Fold.l0]; rw [if_neg (by omega)]) (Ev.bind hE (Ev.now _)), hu⟩
  | succ d ih =>
    intro t i ht h0 hd
    have hi : i < (p.length : Int) := by omega
    have hw := wr1 h0 hi hp
    have hx := hall i h0 hi
    generalize hpx : rd_T42 p i = x at hx
    have skip : ∃ u, Ev (fun k => ferruleref9_Fold.j1 k p t i true x.f0 x.f1 x.f2) u ∧ runs_ok u 512 := by
      obtain ⟨u, hE, hu⟩ := ih t (i + 1) ht (by omega) (by omega)
      exact ⟨u, Ev.step (fun k => by simp only [ferruleref9_Fold.j1, if_true]; rw [hw]) hE, hu⟩
    have via : ∀ b, (∃ u, Ev (fun k => ferruleref9_Fold.j1 k p t i b x.f0 x.f1 x.f2) u ∧ runs_ok u 512) → (∀ k, ferruleref9_Fold.l0 (k + 1) p t i = ferruleref9_Fold.j1 k p t i b x.f0 x.f1 x.f2) → ∃ u, Ev (fun k => ferruleref9_Fold.l0 k p t i) u ∧ runs_ok u 512 := by
      intro b ⟨u, hE, hu⟩ hk
      exact ⟨u, Ev.step hk hE, hu⟩
    by_cases c1 : x.f2 < 0
    · exact via true skip (fun k => by simp only [ferruleref9_Fold.l0]; rw [if_pos hi, if_pos h0, hpx, if_pos c1])
    by_cases c2 : x.f2 > 1048576
    · exact via true skip (fun k => by simp only [ferruleref9_Fold.l0]; rw [if_pos hi, if_pos h0, hpx, if_neg c1, if_pos c2])
    by_cases c3 : x.f1 < 1
    · exact via true skip (fun k => by simp only [ferruleref9_Fold.l0]; rw [if_pos hi, if_pos h0, hpx, if_neg c1, if_neg c2, if_pos c3])
    by_cases c4 : x.f0 < 0
    · exact via true skip (fun k => by simp only [ferruleref9_Fold.l0]; rw [if_pos hi, if_pos h0, hpx, if_neg c1, if_neg c2, if_neg c3, if_pos c4])
    by_cases c5 : x.f0 > 512
    · exact via true skip (fun k => by simp only [ferruleref9_Fold.l0]; rw [if_pos hi, if_pos h0, hpx, if_neg c1, if_neg c2, if_neg c3, if_neg c4, decide_eq_true c5])
    refine via false ?_ (fun k => by simp only [ferruleref9_Fold.l0]; rw [if_pos hi, if_pos h0, hpx, if_neg c1, if_neg c2, if_neg c3, if_neg c4, decide_eq_false c5])
    obtain ⟨u, hE, hu⟩ := fold_one p i x hw (by omega) (by omega) (by omega) (by omega) hx (fun u => runs_ok u 512) (512 - x.f0).toNat t 0 ht (by omega) (by omega) (fun t ht => ih t (i + 1) ht (by omega) (by omega))
    exact ⟨u, Ev.step (fun k => by simp only [ferruleref9_Fold.j1, Bool.false_eq_true, if_false]) hE, hu⟩
theorem fold_ev (p : List Pc) (hp : (p.length : Int) ≤ 140737488351232) (hall : ∀ i, 0 ≤ i → i < (p.length : Int) → (rd_T42 p i).f1 ≤ 9223372036854775807) : ∃ u, Ev (fun k => ferruleref9_Fold.f k p) u ∧ runs_ok u 512 := by
  obtain ⟨t, hE, ht, hall2⟩ := new_ev
  obtain ⟨u, hE2, hu⟩ := fold_loop p hp hall p.length t 0 ⟨ht, fun j h0 h1 => by rw [hall2 j h0 h1]; omega⟩ (by omega) (by omega)
  exact ⟨u, Ev.congr (fun k => by rw [ferruleref9_Fold.f]) (Ev.bind hE hE2), hu⟩

/-! ### All parts folded -/
def piece (x : R) : Pc := ⟨x.f0, x.f1, x.f2⟩
/-- so far: what stands is what shall stand -/
def far (t u : List Int) : Prop := u.length = 512 ∧ ∀ s, 0 ≤ s → s < 512 → rd u s = -1 ∨ rd u s = rd t s
def goodP (t : List Int) (q : Pc) : Prop := 0 ≤ q.f0 ∧ 1 ≤ q.f1 ∧ q.f0 + q.f1 ≤ 512 ∧ 0 ≤ q.f2 ∧ q.f2 ≤ 1048576 ∧ ∀ s, q.f0 ≤ s → s < q.f0 + q.f1 → rd t s = q.f2 + (s - q.f0)
theorem all_one (t : List Int) (p : List Pc) (i : Int) (x : Pc) (hw : wrap64 (i + 1) = i + 1) (hx : goodP t x) (r : List R) (d : Nat) : ∀ (u : List Int) (j : Int), far t u → 0 ≤ j → x.f1 - j = d → (∀ s, x.f0 ≤ s → s < x.f0 + j → rd u s = rd t s) →
    (∀ u', far t u' → (∀ s, 0 ≤ s → s < 512 → rd u s = rd t s → rd u' s = rd t s) → (∀ s, x.f0 ≤ s → s < x.f0 + x.f1 → rd u' s = rd t s) → Ev (fun k => ferruleref9_Fold.l0 k p u' (i + 1)) r) →
    Ev (fun k => ferruleref9_Fold.l1 k p u i j x.f0 x.f1 x.f2) r := by
  obtain ⟨g0, g1, g2, g3, g4, g5⟩ := hx
  induction d with
  | zero =>
    intro u j hu h0 hd hdone h
    refine Ev.step (fun k => ?_) (h u hu (fun _ _ _ e => e) (fun s s0 s1 => hdone s s0 (by omega)))
    simp only [ferruleref9_Fold.l1]
    rw [if_neg (by omega), hw]
  | succ d ih =>
    intro u j hu h0 hd hdone h
    have e : wrap64 (x.f0 + j) = x.f0 + j := wr (by omega) (by omega)
    have e2 : wrap64 (x.f2 + j) = x.f2 + j := wr (by omega) (by omega)
    have hl := hu.1
    have hv := g5 (x.f0 + j) (by omega) (by omega)
    have hrd : ∀ s, 0 ≤ s → s < 512 → rd (u.set (x.f0 + j).toNat (x.f2 + j)) s = if s = x.f0 + j then x.f2 + j else rd u s := fun s s0 s1 => rd_set u (x.f0 + j) s _ (by omega) s0 (by omega)
    refine Ev.step (fun k => ?_) (ih (u.set (x.f0 + j).toNat (x.f2 + j)) (j + 1) ⟨by rw [List.length_set]; exact hl, fun s s0 s1 => ?_⟩ (by omega) (by omega) (fun s s0 s1 => ?_) (fun u' hu' hk hd' => h u' hu' (fun s s0 s1 es => ?_) hd'))
    · simp only [ferruleref9_Fold.l1]
      rw [if_pos (by omega), e, if_pos (by omega), if_pos (by omega), if_pos (by omega), e2, wr1 h0 (show j < 513 by omega) (by omega)]
    · rw [hrd s s0 s1]
      split
      · rename_i es; subst es; exact Or.inr (by omega)
      · exact hu.2 s s0 s1
    · rw [hrd s (by omega) (by omega)]
      split
      · rename_i es; subst es; omega
      · exact hdone s s0 (by omega)
    · refine hk s s0 s1 ?_
      rw [hrd s s0 s1]
      split
      · rename_i es'; subst es'; omega
      · exact es
theorem all_loop (t : List Int) (ht : tab t) (l : List R) (hR : Ev (fun k => ferruleref9_Runs.f k t) l) (p : List Pc) (hp : (p.length : Int) ≤ 140737488351232) (hall : ∀ i, 0 ≤ i → i < (p.length : Int) → goodP t (rd_T42 p i)) (hcov : ∀ s, 0 ≤ s → s < 512 → rd t s ≥ 0 → ∃ i, 0 ≤ i ∧ i < (p.length : Int) ∧ (rd_T42 p i).f0 ≤ s ∧ s < (rd_T42 p i).f0 + (rd_T42 p i).f1) (d : Nat) : ∀ (u : List Int) (i : Int), far t u → 0 ≤ i → (p.length : Int) - i = d →
    (∀ j, 0 ≤ j → j < i → ∀ s, (rd_T42 p j).f0 ≤ s → s < (rd_T42 p j).f0 + (rd_T42 p j).f1 → rd u s = rd t s) → Ev (fun k => ferruleref9_Fold.l0 k p u i) l := by
  induction d with
  | zero =>
    intro u i hu h0 hd hdone
    have e : u = t := by
      refine rd_eq_of (by have := hu.1; have := ht.1; omega) (fun s s0 s1 => ?_)
      have hs : s < 512 := by have := hu.1; omega
      by_cases c : rd t s ≥ 0
      · obtain ⟨j, j0, j1, hj0, hj1⟩ := hcov s s0 hs c
        exact hdone j j0 (by omega) s hj0 hj1
      · have h1 := (ht.2 s s0 hs).1
        rcases hu.2 s s0 hs with h | h <;> omega
    rw [e]
    refine Ev.step (fun k => by simp only [ferruleref9_Fold.l0]; rw [if_neg (by omega)]) (Ev.bind hR (Ev.now _))
  | succ d ih =>
    intro u i hu h0 hd hdone
    have hi : i < (p.length : Int) := by omega
    have hw := wr1 h0 hi hp
    have hx := hall i h0 hi
    generalize hpx : rd_T42 p i = x at hx
    obtain ⟨g0, g1, g2, g3, g4, g5⟩ := id hx
    refine Ev.step (f := fun k => ferruleref9_Fold.j1 k p u i false x.f0 x.f1 x.f2) (fun k => ?_) (Ev.step (f := fun k => ferruleref9_Fold.l1 k p u i 0 x.f0 x.f1 x.f2) (fun k => by simp only [ferruleref9_Fold.j1, Bool.false_eq_true, if_false]) ?_)
    · simp only [ferruleref9_Fold.l0]
      rw [if_pos hi, if_pos h0, hpx, if_neg (by omega), if_neg (by omega), if_neg (by omega), if_neg (by omega), decide_eq_false (by omega)]
    · refine all_one t p i x hw hx l x.f1.toNat u 0 hu (by omega) (by omega) (fun s s0 s1 => by omega) (fun u' hu' hk hd' => ih u' (i + 1) hu' (by omega) (by omega) (fun j j0 j1 s s0 s1 => ?_))
      by_cases e : j = i
      · subst e
        rw [hpx] at s0 s1
        exact hd' s s0 s1
      · have hj := hall j j0 (by omega)
        exact hk s (by have := hj.1; omega) (by have := hj.2.2.1; omega) (hdone j j0 (by omega) s s0 s1)
theorem all_ev (t : List Int) (ht : tab t) (l : List R) (hR : Ev (fun k => ferruleref9_Runs.f k t) l) (p : List Pc) (hp : (p.length : Int) ≤ 140737488351232) (hall : ∀ i, 0 ≤ i → i < (p.length : Int) → goodP t (rd_T42 p i)) (hcov : ∀ s, 0 ≤ s → s < 512 → rd t s ≥ 0 → ∃ i, 0 ≤ i ∧ i < (p.length : Int) ∧ (rd_T42 p i).f0 ≤ s ∧ s < (rd_T42 p i).f0 + (rd_T42 p i).f1) : Ev (fun k => ferruleref9_Fold.f k p) l := by
  obtain ⟨u, hE, hu, hall2⟩ := new_ev
  exact Ev.congr (fun k => by rw [ferruleref9_Fold.f]) (Ev.bind hE (all_loop t ht l hR p hp hall hcov p.length u 0 ⟨hu, fun s s0 s1 => Or.inl (hall2 s s0 s1)⟩ (by omega) (by omega) (fun j j0 j1 => by omega)))

/-! ### The law -/
theorem rdP (p : List Pc) (i : Int) (h0 : 0 ≤ i) (h1 : i < (p.length : Int)) : ∃ h : i.toNat < p.length, rd_T42 p i = p[i.toNat] := ⟨by omega, by simp [rd_T42, show i.toNat < p.length by omega]⟩
theorem rdR (p : List R) (i : Int) (h0 : 0 ≤ i) (h1 : i < (p.length : Int)) : ∃ h : i.toNat < p.length, rd_T35 p i = p[i.toNat] := ⟨by omega, by simp [rd_T35, show i.toNat < p.length by omega]⟩
/-- one block's parts are looked at -/
theorem law_in (pages : Int) (hp : 1 ≤ pages) (hp2 : pages ≤ 32) (l : List R) (v : List Int) (hv : (v.length : Int) = 64) (b : Int) (hb0 : 0 ≤ b) (hb1 : b < 64) (m : List R) (hm : ∀ x ∈ m, 0 ≤ x.f0 ∧ 1 ≤ x.f1 ∧ x.f0 + x.f1 ≤ 512 ∧ 0 ≤ x.f2 ∧ x.f2 ≤ 1049088 ∧ x.f2 / pages = b ∧ (x.f2 + x.f1 - 1) / pages = b)
    (hord : m.Pairwise (fun x y => x.f0 + x.f1 ≤ y.f0)) (hml : (m.length : Int) ≤ 300000) (d : Nat) : ∀ (all : List Pc) (s i : Int), 0 ≤ i → (m.length : Int) - i = d → 0 ≤ s → s ≤ 512 * i → (all.length : Int) + d ≤ 100000000 → s + ((m.drop i.toNat).map (fun x => x.f1)).sum = rd v b →
    Ev (fun k => ferrulelaw13_BlocksParts.l0 k pages l v (all ++ (m.drop i.toNat).map piece) (b + 1)) true → Ev (fun k => ferrulelaw13_BlocksParts.l1 k pages l v all b m s i) true := by
  induction d with
  | zero =>
    intro all s i h0 hd s0 s1 ha hs hE
    rw [List.drop_of_length_le (by omega)] at hs hE
    simp only [List.map_nil, List.sum_nil, Int.add_zero, List.append_nil] at hs hE
    refine Ev.step (fun k => ?_) hE
    simp only [ferrulelaw13_BlocksParts.l1]
    rw [if_neg (by omega), if_pos hb0, if_pos (by omega), if_pos hs, wr1 hb0 hb1 (by omega)]
  | succ d ih =>
    intro all s i h0 hd s0 s1 ha hs hE
    have hi : i < (m.length : Int) := by omega
    obtain ⟨hin, er⟩ := rdR m i h0 hi
    obtain ⟨x0, x1, x2, x3, x4, x5, x6⟩ := hm m[i.toNat] (List.getElem_mem hin)
    have ed : m.drop i.toNat = m[i.toNat] :: m.drop (i + 1).toNat := by rw [List.drop_eq_getElem_cons hin, show (i + 1).toNat = i.toNat + 1 by omega]
    have hprev : i > 0 → (rd_T35 m (i - 1)).f0 < (rd_T35 m i).f0 := fun hpos => by
      obtain ⟨hin2, er2⟩ := rdR m (i - 1) (by omega) (by omega)
      have := List.pairwise_iff_getElem.1 hord (i - 1).toNat i.toNat hin2 hin (by omega)
      obtain ⟨_, y1, _⟩ := hm m[(i - 1).toNat] (List.getElem_mem hin2)
      rw [er, er2]
      omega
    rw [← er] at x0 x1 x2 x3 x4 x5 x6 ed
    have hdiv : ∀ y : Int, 0 ≤ y → y ≤ 2000000 → wrap64 (Int.tdiv y pages) = y / pages := fun y y0 y1 => by
      have h1 := Int.ediv_le_self (a := y) pages y0
      have h2 := Int.ediv_nonneg (a := y) (b := pages) y0 (by omega)
      rw [tdiv_of y0, wr (by omega) (by omega)]
    have ew : wrap64 ((rd_T35 m i).f2 + (rd_T35 m i).f1) = (rd_T35 m i).f2 + (rd_T35 m i).f1 := wr (by omega) (by omega)
    have ew2 : wrap64 ((rd_T35 m i).f2 + (rd_T35 m i).f1 - 1) = (rd_T35 m i).f2 + (rd_T35 m i).f1 - 1 := wr (by omega) (by omega)
    have ew3 : wrap64 (s + (rd_T35 m i).f1) = s + (rd_T35 m i).f1 := wr (by omega) (by omega)
    have hwi := wr1 h0 hi (by omega)
    have hE' := ih (all ++ [piece (rd_T35 m i)]) (s + (rd_T35 m i).f1) (i + 1) (by omega) (by omega) (by omega) (by omega) (by rw [List.length_append, List.length_singleton]; omega) (by rw [ed] at hs; simp only [List.map_cons, List.sum_cons] at hs; omega) (by rw [ed] at hE; simpa using hE)
    refine Ev.step (fun k => ?_) hE'
    simp only [ferrulelaw13_BlocksParts.l1]
    rw [if_pos hi, if_pos h0, if_neg (by omega), if_neg (by omega), hdiv _ x3 (by omega), if_pos x5, ew, ew2, hdiv _ (by omega) (by omega), if_pos x6]
    by_cases c : i > 0
    · rw [if_pos c, wr (x := i - 1) (by omega) (by omega), if_pos (by omega), if_pos (by omega), if_neg (by have := hprev c; omega), if_pos (by omega), ew3, hwi]
      rfl
    · rw [if_neg c, if_pos (by omega), ew3, hwi]
      rfl
/-- the parts of the blocks from b on -/
def parts (pages : Int) (s : List R) (b : Int) : Nat → List R
  | 0 => []
  | d + 1 => s.filter (fun x => decide (x.f2 / pages = b)) ++ parts pages s (b + 1) d
theorem parts_mem (pages : Int) (s : List R) (d : Nat) : ∀ (b : Int) (x : R), x ∈ parts pages s b d ↔ x ∈ s ∧ b ≤ x.f2 / pages ∧ x.f2 / pages < b + d := by
  induction d with
  | zero =>
    intro b x
    constructor
    · intro h; simp [parts] at h
    · rintro ⟨_, h1, h2⟩; omega
  | succ d ih =>
    intro b x
    rw [parts, List.mem_append, ih, List.mem_filter]
    simp only [decide_eq_true_eq]
    constructor
    · rintro (⟨h1, h2⟩ | ⟨h1, h2, h3⟩)
      · exact ⟨h1, by omega, by omega⟩
      · exact ⟨h1, by omega, by omega⟩
    · rintro ⟨h1, h2, h3⟩
      by_cases e : x.f2 / pages = b
      · exact Or.inl ⟨h1, e⟩
      · exact Or.inr ⟨h1, by omega, by omega⟩
theorem law_out (pages : Int) (hp : 1 ≤ pages) (hp2 : pages ≤ 32) (l : List R) (hok : ok2 l 512) (hs : splitOk l pages) (v : List Int) (hv : (v.length : Int) = 64) (hvb : ∀ b, 0 ≤ b → b < 64 → rd v b = sumB pages b (split pages l 0 l.length))
    (hF : Ev (fun k => ferruleref9_Fold.f k ((parts pages (split pages l 0 l.length) 0 64).map piece)) l) (hspec : ∀ x ∈ split pages l 0 l.length, 0 ≤ x.f0 ∧ 1 ≤ x.f1 ∧ x.f0 + x.f1 ≤ 512 ∧ 0 ≤ x.f2 ∧ x.f2 ≤ 1049088 ∧ x.f2 / pages = (x.f2 + x.f1 - 1) / pages)
    (hord : (split pages l 0 l.length).Pairwise (fun x y => x.f0 + x.f1 ≤ y.f0)) (d : Nat) : ∀ (all : List Pc) (b : Int), 0 ≤ b → 64 - b = d → (all.length : Int) ≤ 300000 * b → all ++ (parts pages (split pages l 0 l.length) b d).map piece = (parts pages (split pages l 0 l.length) 0 64).map piece →
    Ev (fun k => ferrulelaw13_BlocksParts.l0 k pages l v all b) true := by
  have hlen := hok.1
  have hsl := split_length hs
  induction d with
  | zero =>
    intro all b b0 hd ha he
    have e0 : parts pages (split pages l 0 l.length) b 0 = [] := rfl
    rw [e0, List.map_nil, List.append_nil] at he
    rw [he]
    refine Ev.step (fun k => by simp only [ferrulelaw13_BlocksParts.l0]; rw [if_neg (by omega)]) (Ev.bind hF (Ev.bind (same_ev l (by omega)) (Ev.now _)))
  | succ d ih =>
    intro all b b0 hd ha he
    have hb : b < 64 := by omega
    have hM := moves_ev l b pages (by omega)
    have eM : movesR l b pages = ((split pages l 0 l.length).filter (fun x => decide (x.f2 / pages = b)), 0) := by
      unfold movesR
      rw [if_pos ⟨hs, b0, hb⟩, mov_filter pages b hp _ (fun x hx => by obtain ⟨_, _, _, h3, h4, _⟩ := hspec x hx; exact ⟨h3, by omega⟩) _ 0 (by omega) (by omega)]
      rfl
    rw [eM] at hM
    generalize hm : (split pages l 0 l.length).filter (fun x => decide (x.f2 / pages = b)) = m at hM
    have hmem : ∀ x ∈ m, x ∈ split pages l 0 l.length ∧ x.f2 / pages = b := fun x hx => by rw [← hm, List.mem_filter] at hx; simpa using hx
    have hml : (m.length : Int) ≤ 300000 := by
      have := List.length_filter_le (fun x : R => decide (x.f2 / pages = b)) (split pages l 0 l.length)
      rw [hm] at this
      omega
    refine Ev.step (f := fun k => (blocks_Moves.f k l b pages).bind fun bt228 => (if bt228.2 = 0 then (ferrulelaw13_BlocksParts.l1 k pages l v all b bt228.1 0 0) else (some false))) (fun k => by simp only [ferrulelaw13_BlocksParts.l0]; rw [if_pos hb]) (Ev.bind hM ?_)
    refine Ev.congr (fun k => if_pos rfl) ?_
    refine law_in pages hp hp2 l v hv b b0 hb m (fun x hx => ?_) (hm ▸ List.Pairwise.filter _ hord) hml m.length all 0 0 (by omega) (by omega) (by omega) (by omega) (by omega) ?_ ?_
    · obtain ⟨h1, h2⟩ := hmem x hx
      obtain ⟨a0, a1, a2, a3, a4, a5⟩ := hspec x h1
      exact ⟨a0, a1, a2, a3, a4, h2, by omega⟩
    · rw [show (0 : Int).toNat = 0 from rfl, List.drop_zero, Int.zero_add, hvb b b0 hb, ← hm, sumB_filter]
    · rw [show (0 : Int).toNat = 0 from rfl, List.drop_zero]
      refine ih _ (b + 1) (by omega) (by omega) (by rw [List.length_append, List.length_map]; omega) ?_
      rw [← he, parts, hm, List.map_append, List.append_assoc]
theorem awake_true : Ev (fun k => ferrulelaw13_awake.f k) true := Ev.of (fun k => ferrulelaw13_awake.mono k) (k := 60) (by decide +kernel)
theorem wf64 (x : Int) (h : (Lit.int .i64 x).wf = true) : -9223372036854775808 ≤ x ∧ x ≤ 9223372036854775807 := by simpa [Lit.wf, IntKind.min, IntKind.max, IntKind.signed, IntKind.bits] using h
theorem ok2_fits {l : List R} (h : ok2 l 512) : fits l = true := by
  have hlen := h.1
  unfold fits
  rw [Bool.and_eq_true, Bool.and_eq_true, decide_eq_true_eq]
  refine ⟨by omega, ok2_form h, allB_of fun j j0 j1 => ?_⟩
  obtain ⟨a, b, c, _⟩ := h.2 j j0 (by omega)
  exact decide_eq_true ⟨by omega, by omega⟩
theorem BlocksParts : ferrulelaw13_BlocksParts.Pure := by
  intro p pages _ hl hw hs
  obtain ⟨z0, z1⟩ := wf64 pages hs
  have hall : ∀ i, 0 ≤ i → i < (p.length : Int) → (rd_T42 p i).f1 ≤ 9223372036854775807 := fun i i0 i1 => by
    obtain ⟨hin, e⟩ := rdP p i i0 i1
    rw [e]
    exact (wf64 _ (hw _ (List.getElem_mem hin)).2.1).2
  refine Ev.rounds (g := fun k => ferrulelaw13_BlocksParts.f k p pages) (r := true) ?_
  refine Ev.congr (fun k => by rw [ferrulelaw13_BlocksParts.f]) ?_
  refine Ev.bind awake_true ?_
  refine Ev.congr (fun k => by rw [if_pos rfl]) ?_
  have hout : Ev (fun k => ferrulelaw13_BlocksParts.j0 k p pages true) true := Ev.step (f := fun _ => some true) (fun k => by simp only [ferrulelaw13_BlocksParts.j0, if_true]) (Ev.now true)
  by_cases c1 : (p.length : Int) > 100
  · exact Ev.congr (fun k => by rw [if_pos c1]) hout
  refine Ev.congr (fun k => by rw [if_neg c1]) ?_
  by_cases c2 : pages < 1
  · exact Ev.congr (fun k => by rw [if_pos c2]) hout
  refine Ev.congr (fun k => by rw [if_neg c2]) ?_
  by_cases c3 : pages > 32
  · rw [decide_eq_true c3]; exact hout
  rw [decide_eq_false c3]
  obtain ⟨l, hF, t, ht, hR, hok, hrep⟩ := fold_ev p (by omega) hall
  have hlen := hok.1
  have hfits := ok2_fits hok
  have w64 : wrap64 (64 * pages) = 64 * pages := wr (by omega) (by omega)
  have hI := inside_ev l (64 * pages) (by omega) (by omega) hfits
  refine Ev.step (f := fun k => (ferruleref9_Fold.f k p).bind fun t216 => ((ferruleref13_Inside.f k t216 (wrap64 (64 * pages))).bind fun t219 => (if t219 = true then ((blocks_Valid.f k t216 64 pages).bind fun bt220 => (if bt220.2 = 0 then (ferrulelaw13_BlocksParts.l0 k pages t216 bt220.1 ([] : List (S42)) 0) else (some false))) else (some true)))) (fun k => by simp only [ferrulelaw13_BlocksParts.j0, Bool.false_eq_true, if_false]) ?_
  refine Ev.bind hF ?_
  rw [w64]
  refine Ev.bind hI ?_
  cases hins : allB (insI l (64 * pages)) 0 l.length with
  | false => exact Ev.congr (f := fun _ => some true) (fun k => if_neg (by decide)) (Ev.now true)
  | true =>
    refine Ev.congr (fun k => if_pos rfl) ?_
    have hV := valid_ev l 64 pages (by omega)
    have eV : validR l 64 pages = (count pages l (List.replicate 64 0) 0 l.length, 0) := by
      unfold validR
      rw [if_pos ⟨by omega, by omega, by omega, by omega, hfits, hins⟩]
      rfl
    rw [eV] at hV
    refine Ev.bind hV ?_
    refine Ev.congr (fun k => if_pos rfl) ?_
    have hlow : allB (lowI l) 0 l.length = true := allB_of fun j j0 j1 => by
      have h1 : (rd_T35 l j).f2 + (rd_T35 l j).f1 ≤ 64 * pages := of_decide_eq_true (allB_true hins j j0 (by omega))
      obtain ⟨_, b, _⟩ := hok.2 j j0 (by omega)
      exact decide_eq_true (by omega)
    have hsplit : splitOk l pages := ⟨by omega, by omega, hfits, hlow⟩
    obtain ⟨s1, s2, s3⟩ := split_spec pages (by omega) l hok l.length 0 (by omega) (by omega)
    have hspec : ∀ x ∈ split pages l 0 l.length, 0 ≤ x.f0 ∧ 1 ≤ x.f1 ∧ x.f0 + x.f1 ≤ 512 ∧ 0 ≤ x.f2 ∧ x.f2 ≤ 1049088 ∧ x.f2 / pages = (x.f2 + x.f1 - 1) / pages := fun x hx => by
      obtain ⟨a, b, j, j0, j1, j2, j3, j4⟩ := s1 x hx
      obtain ⟨q0, q1, q2, q3, q4, _⟩ := hok.2 j j0 j1
      have h1 : (rd_T35 l j).f2 + (rd_T35 l j).f1 ≤ 64 * pages := of_decide_eq_true (allB_true hins j j0 (by omega))
      exact ⟨by omega, a, by omega, by omega, by omega, b⟩
    have hblk : ∀ x ∈ split pages l 0 l.length, 0 ≤ x.f2 / pages ∧ x.f2 / pages < 64 ∧ x.f2 ≤ 1048576 := fun x hx => by
      obtain ⟨a, b, j, j0, j1, j2, j3, j4⟩ := s1 x hx
      obtain ⟨q0, q1, q2, q3, q4, _⟩ := hok.2 j j0 j1
      have h1 : (rd_T35 l j).f2 + (rd_T35 l j).f1 ≤ 64 * pages := of_decide_eq_true (allB_true hins j j0 (by omega))
      obtain ⟨_, _, _, r3, _, _⟩ := hspec x hx
      exact ⟨Int.ediv_nonneg r3 (by omega), Int.ediv_lt_of_lt_mul (by omega) (by omega), by omega⟩
    have hvlen : ((count pages l (List.replicate 64 0) 0 l.length).length : Int) = 64 := by
      have : ∀ (d : Nat) (v : List Int) (i : Int), (count pages l v i d).length = v.length := by
        intro d
        induction d with
        | zero => intro v i; rfl
        | succ d ih => intro v i; rw [count, ih, bump_length]
      rw [this, List.length_replicate]; rfl
    have hz : ∀ q, 0 ≤ q → q < 64 → rd (List.replicate 64 (0 : Int)) q = 0 := fun q q0 q1 => by unfold rd; rw [List.getD_eq_getElem?_getD, List.getElem?_replicate]; split <;> rfl
    have hvb : ∀ b, 0 ≤ b → b < 64 → rd (count pages l (List.replicate 64 0) 0 l.length) b = sumB pages b (split pages l 0 l.length) := fun b b0 b1 => by
      rw [count_rd 64 pages l (by omega) (by omega) (by omega) hok hins b b0 b1 l.length _ 0 (by simp) (by omega) (by omega) (fun q q0 q1 => by rw [hz q q0 q1]; omega), hz b b0 b1, split_sum pages b (by omega) l hok l.length 0 (by omega) (by omega), Int.zero_add]
    refine law_out pages (by omega) (by omega) l hok hsplit _ hvlen hvb ?_ hspec s3 64 [] 0 (by omega) (by omega) (by simp) (by simp)
    have hmemP : ∀ x, x ∈ parts pages (split pages l 0 l.length) 0 64 ↔ x ∈ split pages l 0 l.length := fun x => by
      rw [parts_mem]
      constructor
      · exact fun h => h.1
      · intro h
        obtain ⟨a, b, _⟩ := hblk x h
        exact ⟨h, by omega, by omega⟩
    have hplen : ((parts pages (split pages l 0 l.length) 0 64).length : Int) ≤ 300000 * 64 := by
      have hsl := split_length hsplit
      have : ∀ (d : Nat) (b : Int), ((parts pages (split pages l 0 l.length) b d).length : Int) ≤ 300000 * d := by
        intro d
        induction d with
        | zero => intro b; simp [parts]
        | succ d ih =>
          intro b
          rw [parts, List.length_append]
          have h1 := ih (b + 1)
          have h2 := List.length_filter_le (fun x : R => decide (x.f2 / pages = b)) (split pages l 0 l.length)
          omega
      exact this 64 0
    refine all_ev t ht l hR _ (by rw [List.length_map]; omega) (fun i i0 i1 => ?_) (fun s s0 s1' hs' => ?_)
    · obtain ⟨hin, e⟩ := rdP _ i i0 i1
      rw [e, List.getElem_map]
      have hx := (hmemP _).1 (List.getElem_mem (l := parts pages (split pages l 0 l.length) 0 64) (n := i.toNat) (by simpa using hin))
      generalize (parts pages (split pages l 0 l.length) 0 64)[i.toNat]'(by simpa using hin) = x at hx
      obtain ⟨a0, a1, a2, a3, a4, a5⟩ := hspec x hx
      obtain ⟨_, _, a6⟩ := hblk x hx
      obtain ⟨_, _, j, j0, j1, j2, j3, j4⟩ := s1 x hx
      refine ⟨a0, a1, a2, a3, a6, fun s q0 q1 => ?_⟩
      have q0' : x.f0 ≤ s := q0
      have q1' : s < x.f0 + x.f1 := q1
      have := hrep.1 j j0 j1 s ⟨by omega, by omega⟩
      show rd t s = x.f2 + (s - x.f0)
      omega
    · obtain ⟨j, j0, j1, hj⟩ := hrep.2 s s0 s1' hs'
      obtain ⟨x, hx, hxs⟩ := s2 j s j0 j1 hj
      obtain ⟨n, hn, en⟩ := List.getElem_of_mem ((hmemP x).2 hx)
      refine ⟨(n : Int), by omega, by rw [List.length_map]; omega, ?_⟩
      have e : rd_T42 ((parts pages (split pages l 0 l.length) 0 64).map piece) (n : Int) = piece x := by
        simp [rd_T42, hn, en]
      rw [e]
      exact hxs

end Go.Proofs.Ytnogokemjcfaoaa.Pure
