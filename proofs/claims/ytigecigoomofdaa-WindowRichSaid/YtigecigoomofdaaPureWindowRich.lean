/- For any pieces and any size of a window: of the runs that the pieces fold to, with more runs than twice the windows the richest window has at least three, with more than four times at least five; the holes and the runs of that window are all of it. Conditions: none beyond the row's own. -/
import Derived.Test.YtigecigoomofdaaPWindowRichx7
namespace Go.Proofs.Ytigecigoomofdaa.Pure
open Go.RowKit Go.Proofs.Ytigecigoomofdaa.PWindowRich Go.Proofs.YtigecigoomofdaaW.PrintWords Go.Proofs.YtigecigoomofdaaW.PrintLast Go.Proofs.YtigecigoomofdaaW.PrintMore
set_option linter.unusedVariables false
set_option linter.unusedSimpArgs false

theorem wr {x : Int} (h0 : -9223372036854775808 ≤ x) (h1 : x ≤ 9223372036854775807) : wrap64 x = x := by unfold wrap64; omega
theorem wr1 {i n : Int} (h0 : 0 ≤ i) (h : i < n) (hn : n ≤ 140737488351232) : wrap64 (i + 1) = i + 1 := wr (by omega) (by omega)

/-- p holds from i on, d times -/
def allB (p : Int → Bool) (i : Int) : Nat → Bool
  | 0 => true
  | d + 1 => p i && allB p (i + 1) d
theorem allB_true {p : Int → Bool} {i : Int} {d : Nat} (h : allB p i d = true) : ∀ j, i ≤ j → j < i + d → p j = true := by
  induction d generalizing i with
  | zero => intro j h1 h2; omega
  | succ d ih =>
    simp only [allB, Bool.and_eq_true] at h
    intro j h1 h2
    by_cases e : j = i
    · subst e; exact h.1
    · exact ih h.2 j (by omega) (by omega)
theorem allB_of {p : Int → Bool} {i : Int} {d : Nat} (h : ∀ j, i ≤ j → j < i + d → p j = true) : allB p i d = true := by
  induction d generalizing i with
  | zero => rfl
  | succ d ih => simp only [allB, Bool.and_eq_true]; exact ⟨h i (by omega) (by omega), ih fun j h1 h2 => h j (by omega) (by omega)⟩
theorem allB_congr {p q : Int → Bool} {i : Int} {d : Nat} (h : ∀ j, i ≤ j → j < i + d → p j = q j) : allB p i d = allB q i d := by
  induction d generalizing i with
  | zero => rfl
  | succ d ih => simp only [allB]; rw [h i (by omega) (by omega), ih fun j h1 h2 => h j (by omega) (by omega)]

abbrev R := S39
def r_ (l : List R) (i : Int) : R := rd_T39 l i
/-! ### Form -/
def good1 (x : R) : Prop := 0 ≤ x.f0 ∧ x.f0 ≤ 1073741824 ∧ 0 ≤ x.f2 ∧ x.f2 ≤ 1073741824 ∧ 1 ≤ x.f1 ∧ x.f1 ≤ 1073741824
instance (x : R) : Decidable (good1 x) := by unfold good1; exact inferInstance
def adj (p x : R) : Prop := p.f0 + p.f1 ≤ x.f0 ∧ ¬ (p.f0 + p.f1 = x.f0 ∧ p.f2 + p.f1 = x.f2)
instance (p x : R) : Decidable (adj p x) := by unfold adj; exact inferInstance
def formI (l : List R) (i : Int) : Bool := decide (good1 (rd_T39 l i)) && (decide (i = 0) || decide (adj (rd_T39 l (i - 1)) (rd_T39 l i)))
def form (l : List R) : Bool := allB (formI l) 0 l.length

theorem form_prog (l : List R) (hl : (l.length : Int) ≤ 140737488351232) (d : Nat) : ∀ (i : Int), 0 ≤ i → (l.length : Int) - i = d → (i = 0 ∨ good1 (rd_T39 l (i - 1))) →
    Ev (fun k => span_Form.l0 k l l (l.length : Int) i) (allB (formI l) i d) := by
  induction d with
  | zero =>
    intro i h0 hd _
    refine Ev.step (fun k => ?_) (Ev.now _)
    simp only [span_Form.l0, allB]
    rw [if_neg (by omega)]
  | succ d ih =>
    intro i h0 hd hp
    have hi : i < (l.length : Int) := by omega
    have hw := wr1 h0 hi hl
    have hw1 : wrap64 (i - 1) = i - 1 := wr (by omega) (by omega)
    generalize hx : rd_T39 l i = x
    have step1 : ∀ b, b = !decide (good1 x) → Ev (fun k => span_Form.j1 k l i l (l.length : Int) i b x.f0 x.f1 x.f2) (allB (formI l) i (d + 1)) := by
      intro b hb
      subst hb
      by_cases hg : good1 x
      · simp only [hg, decide_true, Bool.not_true]
        have nx := ih (i + 1) (by omega) (by omega) (Or.inr (by rw [show i + 1 - 1 = i by omega, hx]; exact hg))
        by_cases hi0 : i = 0
        · refine Ev.step (f := fun k => span_Form.l0 k l l (l.length : Int) (i + 1)) (fun k => ?_) ?_
          · simp only [span_Form.j1]
            rw [if_neg (by decide), if_pos hi0, hw]
          · have hfi : formI l i = true := by
              unfold formI
              rw [hx, decide_eq_true hg, decide_eq_true hi0]; rfl
            simp only [allB, hfi, Bool.true_and]
            exact nx
        · have hgp : good1 (rd_T39 l (i - 1)) := hp.resolve_left hi0
          generalize hpx : rd_T39 l (i - 1) = p at hgp
          obtain ⟨a0, a1, a2, a3, a4, a5⟩ := hg
          obtain ⟨b0, b1, b2, b3, b4, b5⟩ := hgp
          have e1 : wrap64 (x.f0 - p.f0) = x.f0 - p.f0 := wr (by omega) (by omega)
          have e2 : wrap64 (x.f2 - p.f2) = x.f2 - p.f2 := wr (by omega) (by omega)
          have hfi : formI l i = decide (adj p x) := by
            have hgx : good1 x := ⟨a0, a1, a2, a3, a4, a5⟩
            simp [formI, hx, hpx, hi0, hgx]
          by_cases c1 : x.f0 - p.f0 < p.f1
          · refine Ev.step (f := fun _ => some false) (fun k => ?_) (by
              have : ¬ adj p x := fun h => by have := h.1; omega
              simp only [allB, hfi, this, decide_false, Bool.false_and]; exact Ev.now _)
            simp only [span_Form.j1]
            rw [if_neg (by decide), if_neg hi0, hw1, if_pos (by omega), if_pos (by omega), hpx, e1, if_pos c1]
          · by_cases c2 : x.f0 - p.f0 = p.f1
            · by_cases c3 : x.f2 - p.f2 = p.f1
              · refine Ev.step (f := fun _ => some false) (fun k => ?_) (by
                  have : ¬ adj p x := fun h => h.2 ⟨by omega, by omega⟩
                  simp only [allB, hfi, this, decide_false, Bool.false_and]; exact Ev.now _)
                simp only [span_Form.j1]
                rw [if_neg (by decide), if_neg hi0, hw1, if_pos (by omega), if_pos (by omega), hpx, e1, if_neg c1, if_pos c2, e2, if_pos c3]
              · refine Ev.step (f := fun k => span_Form.l0 k l l (l.length : Int) (i + 1)) (fun k => ?_) (by
                  have : adj p x := ⟨by omega, fun h => by omega⟩
                  simp only [allB, hfi, this, decide_true, Bool.true_and]; exact nx)
                simp only [span_Form.j1]
                rw [if_neg (by decide), if_neg hi0, hw1, if_pos (by omega), if_pos (by omega), hpx, e1, if_neg c1, if_pos c2, e2, if_neg c3, hw]
            · refine Ev.step (f := fun k => span_Form.l0 k l l (l.length : Int) (i + 1)) (fun k => ?_) (by
                have : adj p x := ⟨by omega, fun h => by omega⟩
                simp only [allB, hfi, this, decide_true, Bool.true_and]; exact nx)
              simp only [span_Form.j1]
              rw [if_neg (by decide), if_neg hi0, hw1, if_pos (by omega), if_pos (by omega), hpx, e1, if_neg c1, if_neg c2, hw]
      · simp only [hg, decide_false, Bool.not_false]
        refine Ev.step (f := fun _ => some false) (fun k => by simp only [span_Form.j1, if_true]) (by
          simp only [allB, formI, hx, hg, decide_false, Bool.false_and]; exact Ev.now _)
    have hB : (!decide (good1 x)) = (decide (x.f0 < 0) || decide (x.f0 > 1073741824) || decide (x.f2 < 0) || decide (x.f2 > 1073741824) || decide (x.f1 < 1) || decide (x.f1 > 1073741824)) := by
      by_cases hg : good1 x
      · obtain ⟨a0, a1, a2, a3, a4, a5⟩ := id hg
        rw [decide_eq_true hg, decide_eq_false (show ¬ x.f0 < 0 by omega), decide_eq_false (show ¬ x.f0 > 1073741824 by omega), decide_eq_false (show ¬ x.f2 < 0 by omega), decide_eq_false (show ¬ x.f2 > 1073741824 by omega), decide_eq_false (show ¬ x.f1 < 1 by omega), decide_eq_false (show ¬ x.f1 > 1073741824 by omega)]
        rfl
      · rw [decide_eq_false hg]
        have : x.f0 < 0 ∨ x.f0 > 1073741824 ∨ x.f2 < 0 ∨ x.f2 > 1073741824 ∨ x.f1 < 1 ∨ x.f1 > 1073741824 := by
          unfold good1 at hg; omega
        simp only [Bool.not_false]
        symm
        simp only [Bool.or_eq_true, decide_eq_true_eq]
        omega
    refine Ev.step (f := fun k => span_Form.j1 k l i l (l.length : Int) i (!decide (good1 x)) x.f0 x.f1 x.f2) (fun k => ?_) (step1 _ rfl)
    simp only [span_Form.l0]
    rw [if_pos hi, if_pos h0, if_pos hi, hx, hB]
    by_cases c1 : x.f0 < 0
    · simp [c1]
    by_cases c2 : x.f0 > 1073741824
    · simp [c1, c2]
    by_cases c3 : x.f2 < 0
    · simp [c1, c2, c3]
    by_cases c4 : x.f2 > 1073741824
    · simp [c1, c2, c3, c4]
    by_cases c5 : x.f1 < 1
    · simp [c1, c2, c3, c4, c5]
    simp [c1, c2, c3, c4, c5]

theorem form_ev (l : List R) (hl : (l.length : Int) ≤ 140737488351232) : Ev (fun k => span_Form.f k l) (form l) :=
  Ev.congr (fun k => by rw [span_Form.f]) (form_prog l hl l.length 0 (by omega) (by omega) (Or.inl rfl))

theorem form_at {l : List R} (h : form l = true) {i : Int} (h0 : 0 ≤ i) (h1 : i < (l.length : Int)) : good1 (rd_T39 l i) ∧ (i = 0 ∨ adj (rd_T39 l (i - 1)) (rd_T39 l i)) := by
  have := allB_true h i h0 (by omega)
  unfold formI at this
  simpa using this

theorem new_loop (d : Nat) : ∀ (t : List Int) (i : Int), t.length = 512 → 0 ≤ i → 512 - i = d → (∀ j, 0 ≤ j → j < i → rd t j = -1) → ∃ u, Ev (fun k => ferruleref9_New.l0 k 512 t i) u ∧ u.length = 512 ∧ ∀ j, 0 ≤ j → j < 512 → rd u j = -1 := by
  induction d with
  | zero => intro t i ht h0 hd h; exact ⟨t, Ev.step (fun k => by simp only [ferruleref9_New.l0]; rw [if_neg (by omega)]) (Ev.now _), ht, fun j h1 h2 => h j h1 (by omega)⟩
  | succ d ih =>
    intro t i ht h0 hd h
    obtain ⟨u, hE, hu⟩ := ih (t.set i.toNat (-1)) (i + 1) (by simpa using ht) (by omega) (by omega) (by
      intro j h1 h2
      unfold rd
      by_cases e : j = i
      · subst e; simp [List.getD, show j.toNat < t.length by omega]
      · have := h j h1 (by omega)
        unfold rd at this
        rw [List.getD_eq_getElem?_getD, List.getElem?_set_ne (by omega), ← List.getD_eq_getElem?_getD]; exact this)
    refine ⟨u, Ev.step (fun k => ?_) hE, hu⟩
    simp only [ferruleref9_New.l0]
    rw [if_pos (by omega), if_pos h0, if_pos (by omega), wr1 h0 (show i < 512 by omega) (by omega)]
theorem new_ev : ∃ u, Ev (fun k => ferruleref9_New.f k 512) u ∧ u.length = 512 ∧ ∀ j, 0 ≤ j → j < 512 → rd u j = -1 := by
  obtain ⟨u, hE, hu⟩ := new_loop 512 (List.replicate 512 0) 0 List.length_replicate (by omega) (by omega) (fun j h0 h1 => by omega)
  exact ⟨u, Ev.congr (fun k => by rw [ferruleref9_New.f, if_pos (by omega), if_pos (by decide)]; rfl) hE, hu⟩

/-- a table of pages -/
def tab (t : List Int) : Prop := t.length = 512 ∧ ∀ j, 0 ≤ j → j < 512 → -1 ≤ rd t j ∧ rd t j ≤ 1049088
theorem rd_set (t : List Int) (i j v : Int) (hi : 0 ≤ i) (hj : 0 ≤ j) (hl : i < (t.length : Int)) : rd (t.set i.toNat v) j = if j = i then v else rd t j := by
  unfold rd
  by_cases e : j = i
  · subst e; rw [if_pos rfl]; simp [List.getD, show j.toNat < t.length by omega]
  · rw [if_neg e, List.getD_eq_getElem?_getD, List.getElem?_set_ne (by omega), ← List.getD_eq_getElem?_getD]
theorem tab_set {t : List Int} (h : tab t) {i v : Int} (h0 : 0 ≤ i) (h1 : i < 512) (v0 : -1 ≤ v) (v1 : v ≤ 1049088) : tab (t.set i.toNat v) := by
  refine ⟨by simpa using h.1, fun j j0 j1 => ?_⟩
  rw [rd_set t i j v h0 j0 (by have := h.1; omega)]
  split
  · exact ⟨v0, v1⟩
  · exact h.2 j j0 j1

theorem rd_app (o : List R) (x : R) (i : Int) (h0 : 0 ≤ i) (h1 : i < (o.length : Int)) : rd_T39 (o ++ [x]) i = rd_T39 o i := by
  unfold rd_T39
  rw [List.getD_eq_getElem?_getD, List.getElem?_append_left (by omega), ← List.getD_eq_getElem?_getD]
theorem rd_setR (o : List R) (x : R) (i j : Int) (hi : 0 ≤ i) (hj : 0 ≤ j) (hl : i < (o.length : Int)) : rd_T39 (o.set i.toNat x) j = if j = i then x else rd_T39 o j := by
  unfold rd_T39
  by_cases e : j = i
  · subst e; rw [if_pos rfl]; simp [List.getD, show j.toNat < o.length by omega]
  · rw [if_neg e, List.getD_eq_getElem?_getD, List.getElem?_set_ne (by omega), ← List.getD_eq_getElem?_getD]
/-! ### Runs of a table -/
/-- runs below n, in their form -/
def ok2 (l : List R) (n : Int) : Prop := (l.length : Int) ≤ n ∧ ∀ i, 0 ≤ i → i < (l.length : Int) → 0 ≤ (rd_T39 l i).f0 ∧ 1 ≤ (rd_T39 l i).f1 ∧ (rd_T39 l i).f0 + (rd_T39 l i).f1 ≤ n ∧ 0 ≤ (rd_T39 l i).f2 ∧ (rd_T39 l i).f2 ≤ 1049088 ∧ (0 < i → adj (rd_T39 l (i - 1)) (rd_T39 l i))
/-- what the last run is, ahead of sector i -/
def lastok (t : List Int) (o : List R) (i : Int) : Prop :=
  (i > 0 → rd t (i - 1) ≥ 0 → 0 < (o.length : Int) ∧ (rd_T39 o ((o.length : Int) - 1)).f0 + (rd_T39 o ((o.length : Int) - 1)).f1 = i ∧ (rd_T39 o ((o.length : Int) - 1)).f2 + (rd_T39 o ((o.length : Int) - 1)).f1 = rd t (i - 1) + 1) ∧
  (¬ (i > 0 ∧ rd t (i - 1) ≥ 0) → (o.length : Int) = 0 ∨ (rd_T39 o ((o.length : Int) - 1)).f0 + (rd_T39 o ((o.length : Int) - 1)).f1 < i)
theorem rd_last (o : List R) (x : R) (n : Int) (hn : n = o.length) : rd_T39 (o ++ [x]) n = x := by
  subst hn
  simp [rd_T39, List.getD]
theorem ok2_more {o : List R} {n : Int} (h : ok2 o n) : ok2 o (n + 1) :=
  ⟨by have := h.1; omega, fun i i0 i1 => by obtain ⟨a, b, c, d, e, f⟩ := h.2 i i0 i1; exact ⟨a, b, by omega, d, e, f⟩⟩
theorem ok2_app {t : List Int} {o : List R} {i c : Int} (h : ok2 o i) (hl : lastok t o i) (h0 : 0 ≤ i) (hc : 0 ≤ c) (hc2 : c ≤ 1049088) (hn : i > 0 → rd t (i - 1) ≥ 0 → rd t (i - 1) + 1 ≠ c) : ok2 (o ++ [(⟨i, 1, c⟩ : R)]) (i + 1) := by
  have hlen := h.1
  refine ⟨by simp; omega, fun j j0 j1 => ?_⟩
  simp only [List.length_append, List.length_cons, List.length_nil] at j1
  by_cases e : j < (o.length : Int)
  · rw [rd_app o _ j j0 e]
    obtain ⟨a, b, c, d, e', f⟩ := h.2 j j0 e
    refine ⟨a, b, by omega, d, e', fun hj => ?_⟩
    rw [rd_app o _ (j - 1) (by omega) (by omega)]
    exact f hj
  · rw [rd_last o _ j (by omega)]
    refine ⟨h0, by show (1 : Int) ≤ 1; omega, by show i + 1 ≤ i + 1; omega, hc, hc2, fun hj => ?_⟩
    have hj1 : j - 1 = (o.length : Int) - 1 := by omega
    rw [rd_app o _ (j - 1) (by omega) (by omega), hj1]
    obtain ⟨a, b, c', d, e', f⟩ := h.2 ((o.length : Int) - 1) (by omega) (by omega)
    refine ⟨c', fun ⟨q1, q2⟩ => ?_⟩
    have q1' : (rd_T39 o ((o.length : Int) - 1)).f0 + (rd_T39 o ((o.length : Int) - 1)).f1 = i := q1
    have q2' : (rd_T39 o ((o.length : Int) - 1)).f2 + (rd_T39 o ((o.length : Int) - 1)).f1 = c := q2
    by_cases g : i > 0 ∧ rd t (i - 1) ≥ 0
    · have z := (hl.1 g.1 g.2).2.2
      exact hn g.1 g.2 (by omega)
    · rcases hl.2 g with z | z <;> omega
theorem lastok_app {t : List Int} {o : List R} {i : Int} (h0 : 0 ≤ i) (hge : rd t i ≥ 0) : lastok t (o ++ [(⟨i, 1, rd t i⟩ : R)]) (i + 1) := by
  have e : ((o ++ [(⟨i, 1, rd t i⟩ : R)]).length : Int) - 1 = (o.length : Int) := by simp
  rw [show i = i + 1 - 1 by omega] at hge
  refine ⟨fun _ _ => ?_, fun h => absurd ⟨by omega, hge⟩ h⟩
  rw [e, rd_last o _ _ rfl, show i + 1 - 1 = i by omega]
  exact ⟨by simp <;> omega, rfl, rfl⟩
theorem last_set (o : List R) (x : R) (ho : 0 < (o.length : Int)) : rd_T39 (o.set ((o.length : Int) - 1).toNat x) ((o.length : Int) - 1) = x := by
  rw [rd_setR o x _ _ (by omega) (by omega) (by omega), if_pos rfl]
theorem ok2_last {o : List R} {n : Int} (h : ok2 o n) (ho : 0 < (o.length : Int)) (hn : n ≤ 1000000) (he : (rd_T39 o ((o.length : Int) - 1)).f0 + (rd_T39 o ((o.length : Int) - 1)).f1 = n) :
    ok2 (o.set ((o.length : Int) - 1).toNat (⟨(rd_T39 o ((o.length : Int) - 1)).f0, wrap64 ((rd_T39 o ((o.length : Int) - 1)).f1 + 1), (rd_T39 o ((o.length : Int) - 1)).f2⟩ : R)) (n + 1) := by
  have hlen := h.1
  refine ⟨by simp; omega, fun i i0 i1 => ?_⟩
  simp only [List.length_set] at i1
  obtain ⟨a, b, c, d, e, f⟩ := h.2 ((o.length : Int) - 1) (by omega) (by omega)
  have ew : wrap64 ((rd_T39 o ((o.length : Int) - 1)).f1 + 1) = (rd_T39 o ((o.length : Int) - 1)).f1 + 1 := wr (by omega) (by omega)
  rw [rd_setR o _ _ i (by omega) i0 (by omega), ew]
  by_cases hi : i = (o.length : Int) - 1
  · rw [if_pos hi]
    refine ⟨a, by show 1 ≤ _ + 1; omega, by show (rd_T39 o ((o.length : Int) - 1)).f0 + ((rd_T39 o ((o.length : Int) - 1)).f1 + 1) ≤ n + 1; omega, d, e, fun hj => ?_⟩
    rw [rd_setR o _ _ (i - 1) (by omega) (by omega) (by omega), if_neg (by omega)]
    have := f (by omega)
    rw [hi]
    exact ⟨this.1, this.2⟩
  · rw [if_neg hi]
    obtain ⟨a', b', c', d', e', f'⟩ := h.2 i i0 i1
    refine ⟨a', b', by omega, d', e', fun hj => ?_⟩
    rw [rd_setR o _ _ (i - 1) (by omega) (by omega) (by omega), if_neg (by omega)]
    exact f' hj
theorem runs_loop (t : List Int) (ht : tab t) (d : Nat) : ∀ (o : List R) (i : Int), 0 ≤ i → 512 - i = d → ok2 o i → lastok t o i → ∃ u, Ev (fun k => ferruleref9_Runs.l0 k t o i) u ∧ ok2 u 512 := by
  induction d with
  | zero =>
    intro o i h0 hd ho _
    obtain rfl : i = 512 := by omega
    exact ⟨o, Ev.step (fun k => by simp only [ferruleref9_Runs.l0]; rw [if_neg (by have := ht.1; omega)]) (Ev.now _), ho⟩
  | succ d ih =>
    intro o i h0 hd ho hlast
    have hl := ht.1
    have hi : i < (t.length : Int) := by omega
    have hw := wr1 h0 hi (by omega)
    have hti := ht.2 i h0 (by omega)
    have hlen := ho.1
    have app : rd t i ≥ 0 → (i > 0 → rd t (i - 1) ≥ 0 → rd t (i - 1) + 1 ≠ rd t i) → ∃ u, Ev (fun k => ferruleref9_Runs.l0 k t (o ++ [(⟨i, 1, rd t i⟩ : R)]) (i + 1)) u ∧ ok2 u 512 := fun hge hne =>
      ih (o ++ [(⟨i, 1, rd t i⟩ : R)]) (i + 1) (by omega) (by omega) (ok2_app ho hlast h0 hge hti.2 hne) (lastok_app h0 hge)
    by_cases c : rd t i < 0
    · obtain ⟨u, hE, hu⟩ := ih o (i + 1) (by omega) (by omega) (ok2_more ho) ⟨fun _ h => by rw [show i + 1 - 1 = i by omega] at h; omega, fun _ => by
        by_cases z : (o.length : Int) = 0
        · exact Or.inl z
        · have := (ho.2 ((o.length : Int) - 1) (by omega) (by omega)).2.2.1
          exact Or.inr (by omega)⟩
      exact ⟨u, Ev.step (fun k => by simp only [ferruleref9_Runs.l0]; rw [if_pos hi, if_pos h0, if_pos c, hw]) hE, hu⟩
    · by_cases c1 : i > 0
      · have hw1 : wrap64 (i - 1) = i - 1 := wr (by omega) (by omega)
        have htp := ht.2 (i - 1) (by omega) (by omega)
        have hw2 : wrap64 (rd t (i - 1) + 1) = rd t (i - 1) + 1 := wr (by omega) (by omega)
        by_cases c2 : rd t (i - 1) ≥ 0
        · by_cases c3 : rd t (i - 1) + 1 = rd t i
          · obtain ⟨hp, hp2, hp3⟩ := hlast.1 c1 c2
            have hw3 : wrap64 ((o.length : Int) - 1) = (o.length : Int) - 1 := wr (by omega) (by omega)
            have hb := ho.2 ((o.length : Int) - 1) (by omega) (by omega)
            have ew : wrap64 ((rd_T39 o ((o.length : Int) - 1)).f1 + 1) = (rd_T39 o ((o.length : Int) - 1)).f1 + 1 := wr (by omega) (by omega)
            obtain ⟨u, hE, hu⟩ := ih _ (i + 1) (by omega) (by omega) (ok2_last ho hp (by omega) hp2) ⟨fun _ _ => by
              rw [List.length_set, last_set o _ hp, show i + 1 - 1 = i by omega]
              refine ⟨hp, ?_, ?_⟩
              · show (rd_T39 o ((o.length : Int) - 1)).f0 + wrap64 ((rd_T39 o ((o.length : Int) - 1)).f1 + 1) = i + 1
                rw [ew]; omega
              · show (rd_T39 o ((o.length : Int) - 1)).f2 + wrap64 ((rd_T39 o ((o.length : Int) - 1)).f1 + 1) = rd t i + 1
                rw [ew]; omega, fun h => by rw [show i + 1 - 1 = i by omega] at h; omega⟩
            refine ⟨u, Ev.step (fun k => ?_) hE, hu⟩
            simp only [ferruleref9_Runs.l0]
            rw [if_pos hi, if_pos h0, if_neg c, if_pos c1, hw1, if_pos (by omega), if_pos (by omega), if_pos c2, hw2, if_pos c3, hw3, if_pos (by omega), if_pos (by omega), hw]
          · obtain ⟨u, hE, hu⟩ := app (by omega) (fun _ _ => c3)
            exact ⟨u, Ev.step (fun k => by simp only [ferruleref9_Runs.l0]; rw [if_pos hi, if_pos h0, if_neg c, if_pos c1, hw1, if_pos (by omega), if_pos (by omega), if_pos c2, hw2, if_neg c3, if_pos (by omega), hw]) hE, hu⟩
        · obtain ⟨u, hE, hu⟩ := app (by omega) (fun _ h => absurd h c2)
          exact ⟨u, Ev.step (fun k => by simp only [ferruleref9_Runs.l0]; rw [if_pos hi, if_pos h0, if_neg c, if_pos c1, hw1, if_pos (by omega), if_pos (by omega), if_neg c2, if_pos (by omega), hw]) hE, hu⟩
      · obtain ⟨u, hE, hu⟩ := app (by omega) (fun h => absurd h c1)
        exact ⟨u, Ev.step (fun k => by simp only [ferruleref9_Runs.l0]; rw [if_pos hi, if_pos h0, if_neg c, if_neg c1, if_pos (by omega), hw]) hE, hu⟩
theorem runs_ev (t : List Int) (ht : tab t) : ∃ u, Ev (fun k => ferruleref9_Runs.f k t) u ∧ ok2 u 512 := by
  obtain ⟨u, hE, hu⟩ := runs_loop t ht 512 [] 0 (by omega) (by omega) ⟨by simp, fun i h0 h1 => by simp at h1; omega⟩ ⟨fun h => by omega, fun _ => Or.inl (by simp)⟩
  exact ⟨u, Ev.congr (fun k => by rw [ferruleref9_Runs.f, if_pos (by omega)]; rfl) hE, hu⟩
theorem ok2_form {l : List R} (h : ok2 l 512) : form l = true := by
  refine allB_of fun j j0 j1 => ?_
  obtain ⟨a, b, c, d, e, f⟩ := h.2 j j0 (by omega)
  unfold formI
  simp only [Bool.and_eq_true, Bool.or_eq_true, decide_eq_true_eq]
  refine ⟨⟨a, by omega, d, by omega, b, by omega⟩, ?_⟩
  by_cases z : j = 0
  · exact Or.inl z
  · exact Or.inr (f (by omega))
abbrev Pc := S38
theorem fold_one (p : List Pc) (i : Int) (x : Pc) (hw : wrap64 (i + 1) = i + 1) (g0 : 0 ≤ x.f0) (g1 : x.f0 ≤ 512) (g2 : 0 ≤ x.f2) (g3 : x.f2 ≤ 1048576) (hx : x.f1 ≤ 9223372036854775807)
    (Q : List R → Prop) (d : Nat) : ∀ (t : List Int) (j : Int), tab t → 0 ≤ j → 512 - x.f0 - j = d → (∀ t, tab t → ∃ u, Ev (fun k => ferruleref9_Fold.l0 k p t (i + 1)) u ∧ Q u) →
    ∃ u, Ev (fun k => ferruleref9_Fold.l1 k p t i j x.f0 x.f1 x.f2) u ∧ Q u := by
  induction d with
  | zero =>
    intro t j ht h0 hd h
    obtain ⟨u, hE, hu⟩ := h t ht
    refine ⟨u, Ev.step (fun k => ?_) hE, hu⟩
    simp only [ferruleref9_Fold.l1]
    have e : wrap64 (x.f0 + j) = x.f0 + j := wr (by omega) (by omega)
    rw [e, if_neg (show ¬ x.f0 + j < 512 by omega), hw, ite_self]
  | succ d ih =>
    intro t j ht h0 hd h
    have e : wrap64 (x.f0 + j) = x.f0 + j := wr (by omega) (by omega)
    have e2 : wrap64 (x.f2 + j) = x.f2 + j := wr (by omega) (by omega)
    by_cases c : j < x.f1
    · obtain ⟨u, hE, hu⟩ := ih (t.set (x.f0 + j).toNat (x.f2 + j)) (j + 1) (tab_set ht (by omega) (by omega) (by omega) (by omega)) (by omega) (by omega) h
      refine ⟨u, Ev.step (fun k => ?_) hE, hu⟩
      simp only [ferruleref9_Fold.l1]
      rw [if_pos c, e, if_pos (by omega), if_pos (by omega), if_pos (by have := ht.1; omega), e2, wr1 h0 (show j < 513 by omega) (by omega)]
    · obtain ⟨u, hE, hu⟩ := h t ht
      refine ⟨u, Ev.step (fun k => ?_) hE, hu⟩
      simp only [ferruleref9_Fold.l1]
      rw [if_neg c, hw]

theorem fold_loop (p : List Pc) (hp : (p.length : Int) ≤ 140737488351232) (hall : ∀ i, 0 ≤ i → i < (p.length : Int) → (rd_T38 p i).f1 ≤ 9223372036854775807) (d : Nat) : ∀ (t : List Int) (i : Int), tab t → 0 ≤ i → (p.length : Int) - i = d →
    ∃ u, Ev (fun k => ferruleref9_Fold.l0 k p t i) u ∧ ok2 u 512 := by
  induction d with
  | zero =>
    intro t i ht h0 hd
    obtain ⟨u, hE, hu⟩ := runs_ev t ht
    refine ⟨u, Ev.step (fun k => by simp only [ferruleref9_Fold.l0]; rw [if_neg (by omega)]) (Ev.bind hE (Ev.now _)), hu⟩
  | succ d ih =>
    intro t i ht h0 hd
    have hi : i < (p.length : Int) := by omega
    have hw := wr1 h0 hi hp
    have hx := hall i h0 hi
    generalize hpx : rd_T38 p i = x at hx
    have skip : ∃ u, Ev (fun k => ferruleref9_Fold.j1 k p t i true x.f0 x.f1 x.f2) u ∧ ok2 u 512 := by
      obtain ⟨u, hE, hu⟩ := ih t (i + 1) ht (by omega) (by omega)
      exact ⟨u, Ev.step (fun k => by simp only [ferruleref9_Fold.j1, if_true]; rw [hw]) hE, hu⟩
    have via : ∀ b, (∃ u, Ev (fun k => ferruleref9_Fold.j1 k p t i b x.f0 x.f1 x.f2) u ∧ ok2 u 512) → (∀ k, ferruleref9_Fold.l0 (k + 1) p t i = ferruleref9_Fold.j1 k p t i b x.f0 x.f1 x.f2) → ∃ u, Ev (fun k => ferruleref9_Fold.l0 k p t i) u ∧ ok2 u 512 := by
      intro b ⟨u, hE, hu⟩ hk
      exact ⟨u, Ev.step hk hE, hu⟩
    by_cases c1 : x.f2 < 0
    · exact via true skip (fun k => by simp only [ferruleref9_Fold.l0]; rw [if_pos hi, if_pos h0, hpx, if_pos c1])
    by_cases c2 : x.f2 > 1048576
    · exact via true skip (fun k => by simp only [ferruleref9_Fold.l0]; rw [if_pos hi, if_pos h0, hpx, if_neg c1, if_pos c2])
    by_cases c3 : x.f1 < 1
    · exact via true skip (fun k => by simp only [ferruleref9_Fold.l0]; rw [if_pos hi, if_pos h0, hpx, if_neg c1, if_neg c2, if_pos c3])
    by_cases c4 : x.f0 < 0
    · exact via true skip (fun k => by simp only [ferruleref9_Fold.l0]; rw [if_pos hi, if_pos h0, hpx, if_neg c1, if_neg c2, if_neg c3, if_pos c4])
    by_cases c5 : x.f0 > 512
    · exact via true skip (fun k => by simp only [ferruleref9_Fold.l0]; rw [if_pos hi, if_pos h0, hpx, if_neg c1, if_neg c2, if_neg c3, if_neg c4, decide_eq_true c5])
    refine via false ?_ (fun k => by simp only [ferruleref9_Fold.l0]; rw [if_pos hi, if_pos h0, hpx, if_neg c1, if_neg c2, if_neg c3, if_neg c4, decide_eq_false c5])
    obtain ⟨u, hE, hu⟩ := fold_one p i x hw (by omega) (by omega) (by omega) (by omega) hx (fun u => ok2 u 512) (512 - x.f0).toNat t 0 ht (by omega) (by omega) (fun t ht => ih t (i + 1) ht (by omega) (by omega))
    exact ⟨u, Ev.step (fun k => by simp only [ferruleref9_Fold.j1, Bool.false_eq_true, if_false]) hE, hu⟩
theorem fold_ev (p : List Pc) (hp : (p.length : Int) ≤ 140737488351232) (hall : ∀ i, 0 ≤ i → i < (p.length : Int) → (rd_T38 p i).f1 ≤ 9223372036854775807) : ∃ u, Ev (fun k => ferruleref9_Fold.f k p) u ∧ ok2 u 512 := by
  obtain ⟨t, hE, ht, hall2⟩ := new_ev
  obtain ⟨u, hE2, hu⟩ := fold_loop p hp hall p.length t 0 ⟨ht, fun j h0 h1 => by rw [hall2 j h0 h1]; omega⟩ (by omega) (by omega)
  exact ⟨u, Ev.congr (fun k => by rw [ferruleref9_Fold.f]) (Ev.bind hE hE2), hu⟩

/-! ### Sums -/
theorem sum_set (v : List Int) : ∀ (j : Nat) (x : Int), j < v.length → (v.set j x).sum = v.sum - v.getD j 0 + x := by
  induction v with
  | nil => intro j x h; simp at h
  | cons a v ih =>
    intro j x h
    cases j with
    | zero => simp only [List.set_cons_zero, List.sum_cons, List.getD_cons_zero]; omega
    | succ j =>
      simp only [List.set_cons_succ, List.sum_cons, List.getD_cons_succ]
      rw [ih j x (by simpa using h)]
      omega
theorem sum_le (M : Int) (v : List Int) : (∀ j, 0 ≤ j → j < (v.length : Int) → rd v j ≤ M) → v.sum ≤ (v.length : Int) * M := by
  induction v with
  | nil => intro _; simp
  | cons a v ih =>
    intro h
    have h0 := h 0 (by omega) (by simp <;> omega)
    have h1 := ih (fun j j0 j1 => by
      have := h (j + 1) (by omega) (by simp only [List.length_cons]; omega)
      unfold rd at this ⊢
      rw [show (j + 1).toNat = j.toNat + 1 by omega, List.getD_cons_succ] at this
      exact this)
    have e0 : rd (a :: v) 0 = a := rfl
    rw [e0] at h0
    simp only [List.sum_cons, List.length_cons]
    rw [Int.natCast_add, Int.add_mul]
    omega
theorem sum_zero (n : Nat) : (List.replicate n (0 : Int)).sum = 0 := by
  induction n with
  | zero => rfl
  | succ n ih => rw [List.replicate_succ, List.sum_cons, ih]; rfl

/-! ### Many -/
theorem win_of {win a : Int} (h1 : 1 ≤ win) (h0 : 0 ≤ a) (h2 : a ≤ 511) : 0 ≤ a / win ∧ a / win ≤ 511 / win ∧ 511 / win ≤ 511 :=
  ⟨Int.ediv_nonneg h0 (by omega), Int.ediv_le_ediv (by omega) h2, Int.ediv_le_self _ (by omega)⟩
theorem many_in (l : List R) (i m win : Int) (x : R) (h1 : 1 ≤ win) (h2 : win ≤ 512) (hm : m ≤ 511) (hx0 : 0 ≤ x.f0) (hx1 : 1 ≤ x.f1) (hx2 : x.f0 + x.f1 ≤ 512) (hwi : wrap64 (i + 1) = i + 1) (Q : List Int × Int → Prop) (d : Nat) :
    ∀ (v : List Int) (w : Int), (v.length : Int) = 511 / win + 1 → 0 ≤ w → (x.f0 + x.f1 - 1) / win + 1 - w = d → (∀ j, 0 ≤ j → j < (v.length : Int) → 0 ≤ rd v j ∧ rd v j ≤ m + 1 ∧ (w ≤ j → rd v j ≤ m)) →
    (∀ v' : List Int, (v'.length : Int) = 511 / win + 1 → (∀ j, 0 ≤ j → j < (v'.length : Int) → 0 ≤ rd v' j ∧ rd v' j ≤ m + 1) → v'.sum = v.sum + d → ∃ u, Ev (fun k => window_Many.l0 k 512 win v' l (l.length : Int) (i + 1)) u ∧ Q u) →
    ∃ u, Ev (fun k => window_Many.l1 k 512 win v w l (l.length : Int) i x.f0 x.f1 x.f2) u ∧ Q u := by
  have hE := win_of h1 (show 0 ≤ x.f0 + x.f1 - 1 by omega) (by omega)
  have eE : wrap64 (Int.tdiv (wrap64 ((wrap64 (x.f0 + x.f1)) - 1)) win) = (x.f0 + x.f1 - 1) / win := by
    rw [wr (x := x.f0 + x.f1) (by omega) (by omega), wr (x := x.f0 + x.f1 - 1) (by omega) (by omega), Int.tdiv_eq_ediv_of_nonneg (by omega), wr (by omega) (by omega)]
  induction d with
  | zero =>
    intro v w hv h0 hd hb hQ
    obtain ⟨u, hE2, hu⟩ := hQ v hv (fun j j0 j1 => by have := hb j j0 j1; omega) (by simp)
    refine ⟨u, Ev.step (fun k => ?_) hE2, hu⟩
    simp only [window_Many.l1]
    rw [if_neg (by omega), eE, if_neg (by omega), hwi]
  | succ d ih =>
    intro v w hv h0 hd hb hQ
    have hw : w < (v.length : Int) := by omega
    have hbw := hb w h0 hw
    have ew : wrap64 (rd v w + 1) = rd v w + 1 := wr (by omega) (by have := hbw.2.2 (by omega); omega)
    obtain ⟨u, hE2, hu⟩ := ih (v.set w.toNat (rd v w + 1)) (w + 1) (by rw [List.length_set]; exact hv) (by omega) (by omega) (fun j j0 j1 => by
      rw [List.length_set] at j1
      rw [rd_set v w j _ h0 j0 hw]
      have hj := hb j j0 j1
      by_cases e : j = w
      · rw [if_pos e]
        have := hbw.2.2 (by omega)
        exact ⟨by omega, by omega, fun h => by omega⟩
      · rw [if_neg e]
        exact ⟨hj.1, hj.2.1, fun h => hj.2.2 (by omega)⟩) (fun v' hv' hb' hs' => hQ v' hv' hb' (by
      rw [hs', sum_set v w.toNat _ (by omega)]
      have : v.getD w.toNat 0 = rd v w := rfl
      rw [this]
      omega))
    refine ⟨u, Ev.step (fun k => ?_) hE2, hu⟩
    simp only [window_Many.l1]
    rw [if_neg (by omega), eE, if_pos (by omega), if_pos h0, if_pos hw, ew, wr (x := w + 1) (by omega) (by omega)]
def manyQ (l : List R) (win : Int) (u : List Int × Int) : Prop := u.2 = 0 ∧ (u.1.length : Int) = 511 / win + 1 ∧ (∀ j, 0 ≤ j → j < (u.1.length : Int) → 0 ≤ rd u.1 j ∧ rd u.1 j ≤ 512) ∧ (l.length : Int) ≤ u.1.sum
theorem many_loop (l : List R) (hok : ok2 l 512) (win : Int) (h1 : 1 ≤ win) (h2 : win ≤ 512) (d : Nat) : ∀ (v : List Int) (i : Int), 0 ≤ i → (l.length : Int) - i = d → (v.length : Int) = 511 / win + 1 → (∀ j, 0 ≤ j → j < (v.length : Int) → 0 ≤ rd v j ∧ rd v j ≤ i) → i ≤ v.sum →
    ∃ u, Ev (fun k => window_Many.l0 k 512 win v l (l.length : Int) i) u ∧ manyQ l win u := by
  have hlen := hok.1
  induction d with
  | zero =>
    intro v i h0 hd hv hb hs
    refine ⟨(v, 0), Ev.step (fun k => ?_) (Ev.now _), rfl, hv, fun j j0 j1 => by have := hb j j0 j1; show 0 ≤ rd v j ∧ rd v j ≤ 512; omega, by show (l.length : Int) ≤ v.sum; omega⟩
    simp only [window_Many.l0]
    rw [if_neg (by omega)]
  | succ d ih =>
    intro v i h0 hd hv hb hs
    have hi : i < (l.length : Int) := by omega
    obtain ⟨a, b, c, e, f, _⟩ := hok.2 i h0 hi
    have hwi := wr1 h0 hi (by omega)
    generalize hx : rd_T39 l i = x at a b c e f
    have hF := win_of h1 a (show x.f0 ≤ 511 by omega)
    have hE := win_of h1 (show 0 ≤ x.f0 + x.f1 - 1 by omega) (by omega)
    have hFE : x.f0 / win ≤ (x.f0 + x.f1 - 1) / win := Int.ediv_le_ediv (by omega) (by omega)
    obtain ⟨n, hn⟩ := Int.eq_ofNat_of_zero_le (show 0 ≤ (x.f0 + x.f1 - 1) / win + 1 - x.f0 / win by omega)
    obtain ⟨u, hE2, hu⟩ := many_in l i i win x h1 h2 (by omega) a b c hwi (manyQ l win) n v (x.f0 / win) hv (by omega) hn (fun j j0 j1 => by have := hb j j0 j1; exact ⟨this.1, by omega, fun _ => this.2⟩) (fun v' hv' hb' hs' => ih v' (i + 1) (by omega) (by omega) hv' hb' (by omega))
    refine ⟨u, Ev.step (f := fun k => window_Many.j2 k 512 win v l (l.length : Int) i false x.f0 x.f1 x.f2) (fun k => ?_) (Ev.step (fun k => ?_) hE2), hu⟩
    · simp only [window_Many.l0]
      rw [if_pos hi, if_pos h0, if_pos hi, hx, if_neg (by omega), wr (x := 512 - x.f0) (by omega) (by omega), decide_eq_false (by omega)]
    · simp only [window_Many.j2]
      rw [if_neg (by decide), if_neg (by omega), Int.tdiv_eq_ediv_of_nonneg a, wr (x := x.f0 / win) (by omega) (by omega)]
theorem many_ev (l : List R) (hok : ok2 l 512) (win : Int) (h1 : 1 ≤ win) (h2 : win ≤ 512) : ∃ u, Ev (fun k => window_Many.f k l 512 win) u ∧ manyQ l win u := by
  have hlen := hok.1
  have hF := win_of h1 (show (0 : Int) ≤ 511 by omega) (by omega)
  have en : wrap64 (Int.tdiv (wrap64 ((wrap64 (512 + win)) - 1)) win) = 511 / win + 1 := by
    rw [wr (x := 512 + win) (by omega) (by omega), wr (x := 512 + win - 1) (by omega) (by omega), Int.tdiv_eq_ediv_of_nonneg (by omega), show 512 + win - 1 = 511 + 1 * win by omega, Int.add_mul_ediv_right _ _ (by omega), wr (by omega) (by omega)]
  obtain ⟨u, hE, hu⟩ := many_loop l hok win h1 h2 l.length (List.replicate (511 / win + 1).toNat 0) 0 (by omega) (by omega) (by rw [List.length_replicate]; omega) (fun j j0 j1 => by
    rw [List.length_replicate] at j1
    have : rd (List.replicate (511 / win + 1).toNat 0) j = 0 := by unfold rd; simp [List.getD_eq_getElem?_getD, List.getElem?_replicate]; split <;> rfl
    omega) (by rw [sum_zero]; omega)
  refine ⟨u, ?_, hu⟩
  refine Ev.congr (f := fun k => (span_Form.f k l).bind fun t => window_Many.j0 k l 512 win (!t)) (fun k => ?_) (Ev.bind (form_ev l (by omega)) ?_)
  · unfold window_Many.f
    rw [if_neg (by decide), if_neg (by decide), if_neg (by omega), if_neg (by omega), if_neg (by omega)]
  · rw [ok2_form hok]
    refine Ev.step (fun k => ?_) hE
    simp only [window_Many.j0, Bool.not_true, Bool.false_eq_true, if_false]
    rw [if_neg (by omega), en, if_pos (by omega), if_pos (by omega)]

/-! ### Richest -/
theorem rich_loop (win : Int) (h1 : 1 ≤ win) (h2 : win ≤ 512) (v : List Int) (hv : (v.length : Int) = 511 / win + 1) (d : Nat) : ∀ (b j : Int), 0 ≤ j → (v.length : Int) - j = d → 0 ≤ b → b < (v.length : Int) → (∀ q, 0 ≤ q → q < j → rd v q ≤ rd v b) →
    ∃ b', 0 ≤ b' ∧ b' < (v.length : Int) ∧ (∀ q, 0 ≤ q → q < (v.length : Int) → rd v q ≤ rd v b') ∧ Ev (fun k => window_Richest.l0 k 512 win v b v (v.length : Int) j) (b' * win, mn win (512 - b' * win), rd v b', 0) := by
  have hF := win_of h1 (show (0 : Int) ≤ 511 by omega) (by omega)
  induction d with
  | zero =>
    intro b j h0 hd b0 b1 hb
    refine ⟨b, b0, b1, fun q q0 q1 => hb q q0 (by omega), Ev.step (fun k => ?_) (Ev.now _)⟩
    have m0 : 0 ≤ b * win := Int.mul_nonneg b0 (by omega)
    have m1 : b * win ≤ 511 := Int.le_trans (Int.mul_le_mul_of_nonneg_right (show b ≤ 511 / win by omega) (by omega)) (Int.ediv_mul_le _ (by omega))
    simp only [window_Richest.l0]
    rw [if_neg (by omega), if_pos b0, if_pos b1, wr (x := b * win) (by omega) (by omega), wr (x := 512 - b * win) (by omega) (by omega)]
  | succ d ih =>
    intro b j h0 hd b0 b1 hb
    have hj : j < (v.length : Int) := by omega
    have hwj := wr1 h0 hj (by omega)
    by_cases c : rd v j > rd v b
    · obtain ⟨b', p0, p1, p2, hE⟩ := ih j (j + 1) (by omega) (by omega) h0 hj (fun q q0 q1 => by
        by_cases e : q = j
        · subst e; omega
        · have := hb q q0 (by omega); omega)
      refine ⟨b', p0, p1, p2, Ev.step (fun k => ?_) hE⟩
      simp only [window_Richest.l0]
      rw [if_pos hj, if_pos h0, if_pos hj, if_pos b0, if_pos b1, if_pos c, hwj]
    · obtain ⟨b', p0, p1, p2, hE⟩ := ih b (j + 1) (by omega) (by omega) b0 b1 (fun q q0 q1 => by
        by_cases e : q = j
        · subst e; omega
        · have := hb q q0 (by omega); omega)
      refine ⟨b', p0, p1, p2, Ev.step (fun k => ?_) hE⟩
      simp only [window_Richest.l0]
      rw [if_pos hj, if_pos h0, if_pos hj, if_pos b0, if_pos b1, if_neg c, hwj]

/-! ### Holes -/
def ov (a b : Int) (x : R) : Int := if b ≤ x.f0 ∨ x.f0 + x.f1 ≤ a then 0 else (if x.f0 + x.f1 ≤ b then x.f0 + x.f1 else b) - (if a ≤ x.f0 then x.f0 else a)
def ovs (a b : Int) (l : List R) (i : Int) : Nat → Int
  | 0 => 0
  | d + 1 => ov a b (rd_T39 l i) + ovs a b l (i + 1) d
def hsum (h : List Pc) : Int := (h.map fun p => p.f1).sum
theorem hsum_app (h : List Pc) (p : Pc) : hsum (h ++ [p]) = hsum h + p.f1 := by simp [hsum]
theorem ovs_far (a b : Int) (l : List R) (hok : ok2 l 512) (d : Nat) : ∀ i : Int, 0 ≤ i → (l.length : Int) - i = d → (0 < d → b ≤ (rd_T39 l i).f0) → ovs a b l i d = 0 := by
  induction d with
  | zero => intro i _ _ _; rfl
  | succ d ih =>
    intro i h0 hd h
    have hb := h (by omega)
    have hi := hok.2 i h0 (by omega)
    have e : ov a b (rd_T39 l i) = 0 := by unfold ov; rw [if_pos (Or.inl hb)]
    have := ih (i + 1) (by omega) (by omega) (fun hpos => by
      obtain ⟨_, _, _, _, _, f⟩ := hok.2 (i + 1) (by omega) (by omega)
      have := (f (by omega)).1
      rw [show i + 1 - 1 = i by omega] at this
      omega)
    simp only [ovs, e, this]
    omega
def pcs (h : List Pc) (n : Int) : Prop := (h.length : Int) ≤ n ∧ ∀ j, 0 ≤ j → j < (h.length : Int) → 0 ≤ (rd_T38 h j).f1 ∧ (rd_T38 h j).f1 ≤ 512
theorem pcs_app {h : List Pc} {n : Int} {p : Pc} (hp : pcs h n) (h0 : 0 ≤ p.f1) (h1 : p.f1 ≤ 512) : pcs (h ++ [p]) (n + 1) := by
  refine ⟨by have := hp.1; simp; omega, fun j j0 j1 => ?_⟩
  simp only [List.length_append, List.length_cons, List.length_nil] at j1
  by_cases e : j < (h.length : Int)
  · have : rd_T38 (h ++ [p]) j = rd_T38 h j := by
      unfold rd_T38
      rw [List.getD_eq_getElem?_getD, List.getElem?_append_left (by omega), ← List.getD_eq_getElem?_getD]
    rw [this]
    exact hp.2 j j0 e
  · have : rd_T38 (h ++ [p]) j = p := by
      obtain rfl : j = (h.length : Int) := by omega
      simp [rd_T38, List.getD]
    rw [this]
    exact ⟨h0, h1⟩
theorem pcs_le {h : List Pc} {n m : Int} (hp : pcs h n) (hm : n ≤ m) : pcs h m := ⟨Int.le_trans hp.1 hm, hp.2⟩
theorem pcs_more {h : List Pc} {n : Int} (hp : pcs h n) : pcs h (n + 1) := ⟨by have := hp.1; omega, hp.2⟩
def holesQ (l : List R) (a b s : Int) (u : List Pc × Int) : Prop := u.2 = 0 ∧ hsum u.1 = s ∧ pcs u.1 600
theorem holes_loop (l : List R) (hok : ok2 l 512) (a b : Int) (ha : 0 ≤ a) (hb : b ≤ 512) (d : Nat) : ∀ (out : List Pc) (at_ i : Int), 0 ≤ i → (l.length : Int) - i = d → a ≤ at_ → at_ < b → (at_ = a ∨ (0 < i ∧ at_ = (rd_T39 l (i - 1)).f0 + (rd_T39 l (i - 1)).f1)) → pcs out i →
    ∃ u, Ev (fun k => window_Holes.l1 k out at_ b l (l.length : Int) i) u ∧ holesQ l a b (hsum out + (b - at_) - ovs a b l i d) u := by
  have hlen := hok.1
  induction d with
  | zero =>
    intro out at_ i h0 hd h1 h2 h3 hp
    have hpl := hp.1
    refine ⟨(out ++ [(⟨at_, wrap64 (b - at_), -1⟩ : Pc)], 0), Ev.step (fun k => ?_) (Ev.now _), rfl, ?_, ?_⟩
    · simp only [window_Holes.l1]
      rw [if_neg (by omega), if_pos h2, if_pos (by omega)]
    · rw [hsum_app]
      show hsum out + wrap64 (b - at_) = _
      rw [wr (by omega) (by omega)]
      simp only [ovs]
      omega
    · have := pcs_app (p := (⟨at_, wrap64 (b - at_), -1⟩ : Pc)) hp (by show 0 ≤ wrap64 (b - at_); rw [wr (by omega) (by omega)]; omega) (by show wrap64 (b - at_) ≤ 512; rw [wr (by omega) (by omega)]; omega)
      exact pcs_le this (by omega)
  | succ d ih =>
    intro out at_ i h0 hd h1 h2 h3 hp
    have hpl := hp.1
    have hi : i < (l.length : Int) := by omega
    have hwi := wr1 h0 hi (by omega)
    obtain ⟨x0, x1, x2, x3, x4, x5⟩ := hok.2 i h0 hi
    have hprev : at_ = a ∨ at_ ≤ (rd_T39 l i).f0 := by
      rcases h3 with h | ⟨hi0, h⟩
      · exact Or.inl h
      · have := (x5 hi0).1
        exact Or.inr (by omega)
    have hnext : 0 < d → (rd_T39 l i).f0 + (rd_T39 l i).f1 ≤ (rd_T39 l (i + 1)).f0 := fun hpos => by
      obtain ⟨_, _, _, _, _, f⟩ := hok.2 (i + 1) (by omega) (by omega)
      have := (f (by omega)).1
      rwa [show i + 1 - 1 = i by omega] at this
    have hself : (at_ = a ∨ (0 < i + 1 ∧ (rd_T39 l i).f0 + (rd_T39 l i).f1 = (rd_T39 l (i + 1 - 1)).f0 + (rd_T39 l (i + 1 - 1)).f1)) := Or.inr ⟨by omega, by rw [show i + 1 - 1 = i by omega]⟩
    have hidx : rd_T39 l (i + 1 - 1) = rd_T39 l i := by rw [show i + 1 - 1 = i by omega]
    generalize hx : rd_T39 l i = x at x0 x1 x2 x3 x4 x5 hprev hnext hself hidx
    have eo : ovs a b l i (d + 1) = ov a b x + ovs a b l (i + 1) d := by simp only [ovs, hx]
    rw [eo]
    by_cases c1 : x.f0 ≥ b
    · -- all the rest is hole
      have e0 : ov a b x = 0 := by unfold ov; rw [if_pos (Or.inl c1)]
      have e1 : ovs a b l (i + 1) d = 0 := ovs_far a b l hok d (i + 1) (by omega) (by omega) (fun hpos => by have := hnext hpos; omega)
      refine ⟨(out ++ [(⟨at_, wrap64 (b - at_), -1⟩ : Pc)], 0), Ev.step (fun k => ?_) (Ev.now _), rfl, ?_, ?_⟩
      · simp only [window_Holes.l1]
        rw [if_pos hi, if_pos h0, if_pos hi, hx, if_pos c1, if_pos h2, if_pos (by omega)]
      · rw [hsum_app, e0, e1]
        show hsum out + wrap64 (b - at_) = _
        rw [wr (by omega) (by omega)]
        omega
      · have := pcs_app (p := (⟨at_, wrap64 (b - at_), -1⟩ : Pc)) hp (by show 0 ≤ wrap64 (b - at_); rw [wr (by omega) (by omega)]; omega) (by show wrap64 (b - at_) ≤ 512; rw [wr (by omega) (by omega)]; omega)
        exact pcs_le this (by omega)
    · have eb : wrap64 (b - x.f0) = b - x.f0 := wr (by omega) (by omega)
      have ee : wrap64 (x.f0 + x.f1) = x.f0 + x.f1 := wr (by omega) (by omega)
      by_cases c2 : x.f0 > at_
      · have eg : wrap64 (x.f0 - at_) = x.f0 - at_ := wr (by omega) (by omega)
        have hp2 := pcs_app (p := (⟨at_, wrap64 (x.f0 - at_), -1⟩ : Pc)) hp (by show 0 ≤ wrap64 (x.f0 - at_); rw [eg]; omega) (by show wrap64 (x.f0 - at_) ≤ 512; rw [eg]; omega)
        have hs2 : hsum (out ++ [(⟨at_, wrap64 (x.f0 - at_), -1⟩ : Pc)]) = hsum out + (x.f0 - at_) := by rw [hsum_app]; show hsum out + wrap64 (x.f0 - at_) = _; rw [eg]
        by_cases c3 : x.f1 ≥ b - x.f0
        · have e0 : ov a b x = b - x.f0 := by unfold ov; rw [if_neg (by omega), if_pos (show a ≤ x.f0 by omega)]; split <;> omega
          have e1 : ovs a b l (i + 1) d = 0 := ovs_far a b l hok d (i + 1) (by omega) (by omega) (fun hpos => by have := hnext hpos; omega)
          refine ⟨(out ++ [(⟨at_, wrap64 (x.f0 - at_), -1⟩ : Pc)], 0), Ev.step (fun k => ?_) (Ev.now _), rfl, ?_, pcs_le hp2 (by omega)⟩
          · simp only [window_Holes.l1]
            rw [if_pos hi, if_pos h0, if_pos hi, hx, if_neg c1, if_pos c2, if_pos (by omega), Option.bind_some, eb, if_pos c3]
          · rw [hs2, e0, e1]; omega
        · have e0 : ov a b x = x.f1 := by unfold ov; rw [if_neg (by omega), if_pos (show a ≤ x.f0 by omega), if_pos (by omega)]; omega
          have em : mx at_ (x.f0 + x.f1) = x.f0 + x.f1 := by unfold mx; split <;> omega
          obtain ⟨u, hE, hu⟩ := ih (out ++ [(⟨at_, wrap64 (x.f0 - at_), -1⟩ : Pc)]) (x.f0 + x.f1) (i + 1) (by omega) (by omega) (by omega) (by omega) (Or.inr ⟨by omega, by rw [hidx]⟩) hp2
          refine ⟨u, Ev.step (fun k => ?_) hE, ?_⟩
          · simp only [window_Holes.l1]
            rw [if_pos hi, if_pos h0, if_pos hi, hx, if_neg c1, if_pos c2, if_pos (by omega), Option.bind_some, eb, if_neg c3, ee, em, hwi]
          · rw [hs2] at hu
            rw [e0, show hsum out + (b - at_) - (x.f1 + ovs a b l (i + 1) d) = hsum out + (x.f0 - at_) + (b - (x.f0 + x.f1)) - ovs a b l (i + 1) d by omega]
            exact hu
      · by_cases c3 : x.f1 ≥ b - x.f0
        · have e0 : ov a b x = b - at_ := by unfold ov; rw [if_neg (by omega)]; split <;> split <;> omega
          have e1 : ovs a b l (i + 1) d = 0 := ovs_far a b l hok d (i + 1) (by omega) (by omega) (fun hpos => by have := hnext hpos; omega)
          refine ⟨(out, 0), Ev.step (fun k => ?_) (Ev.now _), rfl, ?_, pcs_le hp (by omega)⟩
          · simp only [window_Holes.l1]
            rw [if_pos hi, if_pos h0, if_pos hi, hx, if_neg c1, if_neg c2, eb, if_pos c3]
          · show hsum out = _
            rw [e0, e1]; omega
        · by_cases c4 : x.f0 + x.f1 ≤ at_
          · have e0 : ov a b x = 0 := by unfold ov; rw [if_pos (by omega)]
            have em : mx at_ (x.f0 + x.f1) = at_ := by unfold mx; split <;> omega
            obtain ⟨u, hE, hu⟩ := ih out at_ (i + 1) (by omega) (by omega) (by omega) (by omega) (by rcases hprev with h | h; exact Or.inl h; exact absurd h (by omega)) (pcs_more hp)
            refine ⟨u, Ev.step (fun k => ?_) hE, ?_⟩
            · simp only [window_Holes.l1]
              rw [if_pos hi, if_pos h0, if_pos hi, hx, if_neg c1, if_neg c2, eb, if_neg c3, ee, em, hwi]
            · rw [e0, show hsum out + (b - at_) - (0 + ovs a b l (i + 1) d) = hsum out + (b - at_) - ovs a b l (i + 1) d by omega]
              exact hu
          · have e0 : ov a b x = x.f0 + x.f1 - at_ := by unfold ov; rw [if_neg (by omega), if_pos (show x.f0 + x.f1 ≤ b by omega)]; split <;> omega
            have em : mx at_ (x.f0 + x.f1) = x.f0 + x.f1 := by unfold mx; split <;> omega
            obtain ⟨u, hE, hu⟩ := ih out (x.f0 + x.f1) (i + 1) (by omega) (by omega) (by omega) (by omega) (Or.inr ⟨by omega, by rw [hidx]⟩) (pcs_more hp)
            refine ⟨u, Ev.step (fun k => ?_) hE, ?_⟩
            · simp only [window_Holes.l1]
              rw [if_pos hi, if_pos h0, if_pos hi, hx, if_neg c1, if_neg c2, eb, if_neg c3, ee, em, hwi]
            · rw [e0, show hsum out + (b - at_) - (x.f0 + x.f1 - at_ + ovs a b l (i + 1) d) = hsum out + (b - (x.f0 + x.f1)) - ovs a b l (i + 1) d by omega]
              exact hu
theorem holes_check (l : List R) (hok : ok2 l 512) (a n : Int) (Q : List Pc × Int → Prop) (h : ∃ u, Ev (fun k => window_Holes.l1 k [] a (wrap64 (a + n)) l (l.length : Int) 0) u ∧ Q u) (d : Nat) : ∀ i : Int, 0 ≤ i → (l.length : Int) - i = d →
    ∃ u, Ev (fun k => window_Holes.l0 k l a n l (l.length : Int) i) u ∧ Q u := by
  have hlen := hok.1
  induction d with
  | zero =>
    intro i h0 hd
    obtain ⟨u, hE, hu⟩ := h
    refine ⟨u, Ev.step (fun k => ?_) hE, hu⟩
    simp only [window_Holes.l0]
    rw [if_neg (by omega)]
  | succ d ih =>
    intro i h0 hd
    have hi : i < (l.length : Int) := by omega
    obtain ⟨x0, x1, x2, _, _, _⟩ := hok.2 i h0 hi
    obtain ⟨u, hE, hu⟩ := ih (i + 1) (by omega) (by omega)
    refine ⟨u, Ev.step (fun k => ?_) hE, hu⟩
    simp only [window_Holes.l0]
    rw [if_pos hi, if_pos h0, if_pos hi, if_neg (by omega), wr (x := 512 - (rd_T39 l i).f1) (by omega) (by omega), if_neg (by omega), wr1 h0 hi (by omega)]
theorem holes_ev (l : List R) (hok : ok2 l 512) (a n : Int) (ha : 0 ≤ a) (hn : 1 ≤ n) (han : a + n ≤ 512) : ∃ u, Ev (fun k => window_Holes.f k l a n) u ∧ holesQ l a (a + n) (n - ovs a (a + n) l 0 l.length) u := by
  have hlen := hok.1
  obtain ⟨u, hE, hu⟩ := holes_loop l hok a (a + n) ha (by omega) l.length [] a 0 (by omega) (by omega) (by omega) (by omega) (Or.inl rfl) ⟨by simp, fun j j0 j1 => by simp at j1; omega⟩
  have e : hsum [] + (a + n - a) - ovs a (a + n) l 0 l.length = n - ovs a (a + n) l 0 l.length := by simp [hsum]; omega
  rw [e] at hu
  obtain ⟨u2, hE2, hu2⟩ := holes_check l hok a n (holesQ l a (a + n) (n - ovs a (a + n) l 0 l.length)) ⟨u, by rw [wr (x := a + n) (by omega) (by omega)]; exact hE, hu⟩ l.length 0 (by omega) (by omega)
  refine ⟨u2, ?_, hu2⟩
  refine Ev.congr (f := fun k => (span_Form.f k l).bind fun t => if t = true then window_Holes.j0 k l a n false else window_Holes.j0 k l a n true) (fun k => ?_) (Ev.bind (form_ev l (by omega)) ?_)
  · unfold window_Holes.f
    rw [if_neg (by omega)]
    congr 1
    funext t
    cases t
    · rfl
    · rw [if_pos rfl, if_pos rfl, if_neg (by omega), if_neg (by omega), if_neg (by omega), wr (x := 512 - n) (by omega) (by omega), decide_eq_false (by omega)]
  · rw [ok2_form hok]
    refine Ev.congr (fun k => if_pos rfl) (Ev.step (fun k => ?_) hE2)
    simp only [window_Holes.j0, Bool.false_eq_true, if_false]

/-! ### The law -/
theorem law_hsum (l : List R) (a n : Int) (h : List Pc) (hp : pcs h 600) (r : Bool) (d : Nat) : ∀ (s i : Int), 0 ≤ s → s + (512 : Int) * d ≤ 1000000000 → 0 ≤ i → (h.length : Int) - i = d →
    Ev (fun k => ferrulelaw15_WindowRich.l1 k l a n (s + (hsum (h.drop i.toNat))) 0) r → Ev (fun k => ferrulelaw15_WindowRich.l0 k l a n h s i) r := by
  have hl := hp.1
  induction d with
  | zero =>
    intro s i s0 s1 h0 hd hE
    rw [List.drop_of_length_le (by omega)] at hE
    refine Ev.step (fun k => ?_) hE
    simp only [ferrulelaw15_WindowRich.l0]
    rw [if_neg (by omega)]
    simp [hsum]
  | succ d ih =>
    intro s i s0 s1 h0 hd hE
    have hi : i < (h.length : Int) := by omega
    obtain ⟨p0, p1⟩ := hp.2 i h0 hi
    have e : hsum (h.drop i.toNat) = (rd_T38 h i).f1 + hsum (h.drop (i + 1).toNat) := by
      have hin : i.toNat < h.length := by omega
      have er : rd_T38 h i = h[i.toNat] := by simp [rd_T38, hin]
      rw [List.drop_eq_getElem_cons hin, show (i + 1).toNat = i.toNat + 1 by omega, er]
      unfold hsum
      rw [List.map_cons, List.sum_cons]
    have ew : wrap64 (s + (rd_T38 h i).f1) = s + (rd_T38 h i).f1 := wr (by omega) (by omega)
    refine Ev.step (fun k => ?_) (ih (s + (rd_T38 h i).f1) (i + 1) (by omega) (by omega) (by omega) (by omega) (by rw [e, ← Int.add_assoc] at hE; exact hE))
    simp only [ferrulelaw15_WindowRich.l0]
    rw [if_pos hi, if_pos h0, ew, wr1 h0 hi (by omega)]
theorem law_in (l : List R) (hok : ok2 l 512) (a n : Int) (ha : 0 ≤ a) (hn : 1 ≤ n) (han : a + n ≤ 512) (r : Bool) (i : Int) (h0 : 0 ≤ i) (hi : i < (l.length : Int)) (d : Nat) : ∀ (s q : Int), 0 ≤ q → (rd_T39 l i).f1 - q = d → 0 ≤ s → s + d ≤ 1000000000 →
    (Ev (fun k => ferrulelaw15_WindowRich.l1 k l a n (s + ov a (a + n) ⟨(rd_T39 l i).f0 + q, (rd_T39 l i).f1 - q, 0⟩) (i + 1)) r) → Ev (fun k => ferrulelaw15_WindowRich.l2 k l a n s i q) r := by
  have hlen := hok.1
  obtain ⟨x0, x1, x2, _, _, _⟩ := hok.2 i h0 hi
  generalize hx : rd_T39 l i = x at x0 x1 x2
  induction d with
  | zero =>
    intro s q q0 hd s0 s1 hE
    have e : ov a (a + n) (⟨x.f0 + q, x.f1 - q, 0⟩ : R) = 0 := by
      unfold ov
      show (if a + n ≤ x.f0 + q ∨ x.f0 + q + (x.f1 - q) ≤ a then (0 : Int) else (if x.f0 + q + (x.f1 - q) ≤ a + n then x.f0 + q + (x.f1 - q) else a + n) - (if a ≤ x.f0 + q then x.f0 + q else a)) = 0
      split
      · rfl
      · split <;> split <;> omega
    rw [e, Int.add_zero] at hE
    refine Ev.step (fun k => ?_) hE
    simp only [ferrulelaw15_WindowRich.l2]
    rw [if_pos h0, if_pos hi, hx, if_neg (by omega), wr1 h0 hi (by omega)]
  | succ d ih =>
    intro s q q0 hd s0 s1 hE
    have e1 : wrap64 (x.f0 + q) = x.f0 + q := wr (by omega) (by omega)
    have e2 : wrap64 (a + n) = a + n := wr (by omega) (by omega)
    have e3 : wrap64 (q + 1) = q + 1 := wr (by omega) (by omega)
    have e4 : wrap64 (s + 1) = s + 1 := wr (by omega) (by omega)
    have eo : ov a (a + n) (⟨x.f0 + q, x.f1 - q, 0⟩ : R) = (if x.f0 + q ≥ a ∧ x.f0 + q < a + n then 1 else 0) + ov a (a + n) (⟨x.f0 + (q + 1), x.f1 - (q + 1), 0⟩ : R) := by
      unfold ov
      show (if a + n ≤ x.f0 + q ∨ x.f0 + q + (x.f1 - q) ≤ a then (0 : Int) else (if x.f0 + q + (x.f1 - q) ≤ a + n then x.f0 + q + (x.f1 - q) else a + n) - (if a ≤ x.f0 + q then x.f0 + q else a)) = (if x.f0 + q ≥ a ∧ x.f0 + q < a + n then 1 else 0) + (if a + n ≤ x.f0 + (q + 1) ∨ x.f0 + (q + 1) + (x.f1 - (q + 1)) ≤ a then (0 : Int) else (if x.f0 + (q + 1) + (x.f1 - (q + 1)) ≤ a + n then x.f0 + (q + 1) + (x.f1 - (q + 1)) else a + n) - (if a ≤ x.f0 + (q + 1) then x.f0 + (q + 1) else a))
      repeat' split
      all_goals omega
    rw [eo] at hE
    by_cases c1 : x.f0 + q ≥ a
    · by_cases c2 : x.f0 + q < a + n
      · rw [if_pos ⟨c1, c2⟩, ← Int.add_assoc] at hE
        refine Ev.step (fun k => ?_) (ih (s + 1) (q + 1) (by omega) (by omega) (by omega) (by omega) hE)
        simp only [ferrulelaw15_WindowRich.l2]
        rw [if_pos h0, if_pos hi, hx, if_pos (by omega), e1, if_pos c1, e2, if_pos c2, e4, e3]
      · rw [if_neg (fun h => c2 h.2), Int.zero_add] at hE
        refine Ev.step (fun k => ?_) (ih s (q + 1) (by omega) (by omega) (by omega) (by omega) hE)
        simp only [ferrulelaw15_WindowRich.l2]
        rw [if_pos h0, if_pos hi, hx, if_pos (by omega), e1, if_pos c1, e2, if_neg c2, e3]
    · rw [if_neg (fun h => c1 h.1), Int.zero_add] at hE
      refine Ev.step (fun k => ?_) (ih s (q + 1) (by omega) (by omega) (by omega) (by omega) hE)
      simp only [ferrulelaw15_WindowRich.l2]
      rw [if_pos h0, if_pos hi, hx, if_pos (by omega), e1, if_neg c1, e3]
theorem ov_bound (a n : Int) (hn : 1 ≤ n) (x : R) (h : 1 ≤ x.f1) : 0 ≤ ov a (a + n) x ∧ ov a (a + n) x ≤ n := by
  unfold ov
  repeat' split
  all_goals omega
theorem law_runs (l : List R) (hok : ok2 l 512) (a n : Int) (ha : 0 ≤ a) (hn : 1 ≤ n) (han : a + n ≤ 512) (d : Nat) : ∀ (s i : Int), 0 ≤ s → s + (512 : Int) * d ≤ 900000000 → 0 ≤ i → (l.length : Int) - i = d → s + ovs a (a + n) l i d = n →
    Ev (fun k => ferrulelaw15_WindowRich.l1 k l a n s i) true := by
  have hlen := hok.1
  induction d with
  | zero =>
    intro s i s0 s1 h0 hd hs
    refine Ev.step (f := fun _ => some true) (fun k => ?_) (Ev.now _)
    simp only [ferrulelaw15_WindowRich.l1]
    rw [if_neg (by omega)]
    simp only [ovs, Int.add_zero] at hs
    rw [hs]
    simp
  | succ d ih =>
    intro s i s0 s1 h0 hd hs
    have hi : i < (l.length : Int) := by omega
    obtain ⟨x0, x1, x2, _, _, _⟩ := hok.2 i h0 hi
    obtain ⟨b0, b1⟩ := ov_bound a n hn (rd_T39 l i) x1
    obtain ⟨m, hm⟩ := Int.eq_ofNat_of_zero_le (show 0 ≤ (rd_T39 l i).f1 by omega)
    refine Ev.step (f := fun k => ferrulelaw15_WindowRich.l2 k l a n s i 0) (fun k => ?_) (law_in l hok a n ha hn han true i h0 hi m s 0 (by omega) (by omega) s0 (by omega) ?_)
    · simp only [ferrulelaw15_WindowRich.l1]
      rw [if_pos hi]
    · have e : ov a (a + n) (⟨(rd_T39 l i).f0 + 0, (rd_T39 l i).f1 - 0, 0⟩ : R) = ov a (a + n) (rd_T39 l i) := by
        unfold ov
        show (if a + n ≤ (rd_T39 l i).f0 + 0 ∨ (rd_T39 l i).f0 + 0 + ((rd_T39 l i).f1 - 0) ≤ a then (0 : Int) else (if (rd_T39 l i).f0 + 0 + ((rd_T39 l i).f1 - 0) ≤ a + n then (rd_T39 l i).f0 + 0 + ((rd_T39 l i).f1 - 0) else a + n) - (if a ≤ (rd_T39 l i).f0 + 0 then (rd_T39 l i).f0 + 0 else a)) = _
        rw [Int.add_zero, Int.sub_zero]
      rw [e]
      simp only [ovs] at hs
      exact ih (s + ov a (a + n) (rd_T39 l i)) (i + 1) (by omega) (by omega) (by omega) (by omega) (by omega)
theorem awake_true : Ev (fun k => ferrulelaw15_awake.f k) true := Ev.of (fun k => ferrulelaw15_awake.mono k) (k := 60) (by decide +kernel)
theorem wf64 (x : Int) (h : (Lit.int .i64 x).wf = true) : -9223372036854775808 ≤ x ∧ x ≤ 9223372036854775807 := by simpa [Lit.wf, IntKind.min, IntKind.max, IntKind.signed, IntKind.bits] using h
theorem many_most {nw r s : Int} (c : Int) (h1 : 1 ≤ nw) (hs : s ≤ nw * r) (h : s > c * nw) : r ≥ c + 1 := by
  rcases Int.lt_or_le c r with h2 | h2
  · omega
  · have : nw * r ≤ nw * c := Int.mul_le_mul_of_nonneg_left h2 (by omega)
    rw [Int.mul_comm nw c] at this
    omega
theorem WindowRich : ferrulelaw15_WindowRich.Pure := by
  intro p size _ hl hw hs
  obtain ⟨z0, z1⟩ := wf64 size hs
  have hall : ∀ i, 0 ≤ i → i < (p.length : Int) → (rd_T38 p i).f1 ≤ 9223372036854775807 := fun i i0 i1 => by
    have hin : i.toNat < p.length := by omega
    have hm : rd_T38 p i ∈ p := by
      have : rd_T38 p i = p[i.toNat] := by simp [rd_T38, hin]
      rw [this]; exact List.getElem_mem hin
    exact (wf64 _ (hw _ hm).2.1).2
  refine Ev.rounds (g := fun k => ferrulelaw15_WindowRich.f k p size) (r := true) ?_
  refine Ev.congr (fun k => by rw [ferrulelaw15_WindowRich.f]) ?_
  refine Ev.bind awake_true ?_
  refine Ev.congr (fun k => by rw [if_pos rfl]) ?_
  have hout : Ev (fun k => ferrulelaw15_WindowRich.j0 k p size true) true := Ev.step (f := fun _ => some true) (fun k => by simp only [ferrulelaw15_WindowRich.j0, if_true]) (Ev.now true)
  by_cases c1 : (p.length : Int) > 100
  · exact Ev.congr (fun k => by rw [if_pos c1]) hout
  refine Ev.congr (fun k => by rw [if_neg c1]) ?_
  by_cases c2 : size < 1
  · exact Ev.congr (fun k => by rw [if_pos c2]) hout
  refine Ev.congr (fun k => by rw [if_neg c2]) ?_
  by_cases c3 : size > 512
  · rw [decide_eq_true c3]; exact hout
  rw [decide_eq_false c3]
  obtain ⟨l, hF, hok⟩ := fold_ev p (by omega) hall
  obtain ⟨⟨v, e⟩, hM, hMQ⟩ := many_ev l hok size (by omega) (by omega)
  obtain ⟨he, hv, hvb, hvs⟩ := hMQ
  simp only at he hv hvb hvs
  subst he
  have hq := win_of (show 1 ≤ size by omega) (show (0 : Int) ≤ 511 by omega) (by omega)
  obtain ⟨b, b0, b1, b2, hR⟩ := rich_loop size (by omega) (by omega) v hv v.length 0 0 (by omega) (by omega) (by omega) (by omega) (fun q q0 q1 => by omega)
  have hsum_ := sum_le (rd v b) v b2
  have m0 : 0 ≤ b * size := Int.mul_nonneg b0 (by omega)
  have m1 : b * size ≤ 511 := Int.le_trans (Int.mul_le_mul_of_nonneg_right (show b ≤ 511 / size by omega) (by omega)) (Int.ediv_mul_le _ (by omega))
  have hn : 1 ≤ mn size (512 - b * size) ∧ b * size + mn size (512 - b * size) ≤ 512 := by unfold mn; split <;> omega
  have hRich : Ev (fun k => window_Richest.f k l 512 size) (b * size, mn size (512 - b * size), rd v b, 0) := by
    unfold window_Richest.f
    refine Ev.bind hM (Ev.congr (fun k => by rw [if_pos rfl]) hR)
  refine Ev.step (f := fun k => (ferruleref9_Fold.f k p).bind fun t197 => ((window_Many.f k t197 512 size).bind fun bt200 => ((window_Richest.f k t197 512 size).bind fun bt204 => (if bt200.2 = 0 then (if bt204.2.2.2 = 0 then (if (t197.length : Int) > (wrap64 (2 * (bt200.1.length : Int))) then (if bt204.2.2.1 < 3 then (ferrulelaw15_WindowRich.j1 k t197 bt204.1 bt204.2.1 true) else (if (t197.length : Int) > (wrap64 (4 * (bt200.1.length : Int))) then (ferrulelaw15_WindowRich.j1 k t197 bt204.1 bt204.2.1 (decide (bt204.2.2.1 < 5))) else (ferrulelaw15_WindowRich.j1 k t197 bt204.1 bt204.2.1 false))) else (if (t197.length : Int) > (wrap64 (4 * (bt200.1.length : Int))) then (ferrulelaw15_WindowRich.j1 k t197 bt204.1 bt204.2.1 (decide (bt204.2.2.1 < 5))) else (ferrulelaw15_WindowRich.j1 k t197 bt204.1 bt204.2.1 false))) else (ferrulelaw15_WindowRich.j1 k t197 bt204.1 bt204.2.1 true)) else (ferrulelaw15_WindowRich.j1 k t197 bt204.1 bt204.2.1 true))))) (fun k => by simp only [ferrulelaw15_WindowRich.j0, Bool.false_eq_true, if_false]) ?_
  refine Ev.bind hF (Ev.bind hM (Ev.bind hRich ?_))
  have w2 : wrap64 (2 * (v.length : Int)) = 2 * (v.length : Int) := wr (by omega) (by omega)
  have w4 : wrap64 (4 * (v.length : Int)) = 4 * (v.length : Int) := wr (by omega) (by omega)
  -- the last test is false
  have hgo : Ev (fun k => ferrulelaw15_WindowRich.j1 k l (b * size) (mn size (512 - b * size)) false) true := by
    obtain ⟨⟨h, e⟩, hH, he, hs, hp⟩ := holes_ev l hok (b * size) (mn size (512 - b * size)) m0 hn.1 hn.2
    simp only at he hs hp
    subst he
    have hp1 := hp.1
    have hlen := hok.1
    refine Ev.step (f := fun k => (window_Holes.f k l (b * size) (mn size (512 - b * size))).bind fun bt208 => (if bt208.2 = 0 then (ferrulelaw15_WindowRich.l0 k l (b * size) (mn size (512 - b * size)) bt208.1 0 0) else (some false))) (fun k => by simp only [ferrulelaw15_WindowRich.j1, Bool.false_eq_true, if_false]) (Ev.bind hH ?_)
    refine Ev.congr (fun k => by rw [if_pos rfl]) ?_
    refine law_hsum l _ _ h hp true h.length 0 0 (by omega) (by omega) (by omega) (by omega) ?_
    have e0 : h.drop (0 : Int).toNat = h := rfl
    have hs0 : 0 ≤ hsum h ∧ hsum h ≤ 512 * 600 := by
      have hh : ∀ (g : List Pc), (∀ x ∈ g, 0 ≤ x.f1 ∧ x.f1 ≤ 512) → 0 ≤ hsum g ∧ hsum g ≤ 512 * (g.length : Int) := by
        intro g
        induction g with
        | nil => intro _; simp [hsum]
        | cons x g ih =>
          intro hg
          obtain ⟨q0, q1⟩ := ih (fun y hy => hg y (by simp [hy]))
          obtain ⟨r0, r1⟩ := hg x (by simp)
          have : hsum (x :: g) = x.f1 + hsum g := by simp [hsum]
          rw [this, List.length_cons]
          omega
      obtain ⟨q0, q1⟩ := hh h (fun x hx => by
        obtain ⟨j, hj, rfl⟩ := List.getElem_of_mem hx
        have := hp.2 (j : Int) (by omega) (by omega)
        have e : rd_T38 h (j : Int) = h[j] := by simp [rd_T38, hj]
        rw [e] at this
        exact this)
      omega
    rw [e0, Int.zero_add]
    exact law_runs l hok _ _ m0 hn.1 hn.2 l.length (hsum h) 0 hs0.1 (by omega) (by omega) (by omega) (by omega)
  refine Ev.congr (fun k => by rw [if_pos rfl, if_pos rfl, w2, w4]) ?_
  have r2 : (l.length : Int) > 2 * (v.length : Int) → ¬ rd v b < 3 := fun h => by have := many_most 2 (show 1 ≤ (v.length : Int) by omega) (show (l.length : Int) ≤ (v.length : Int) * rd v b by omega) h; omega
  have r4 : (l.length : Int) > 4 * (v.length : Int) → ¬ rd v b < 5 := fun h => by have := many_most 4 (show 1 ≤ (v.length : Int) by omega) (show (l.length : Int) ≤ (v.length : Int) * rd v b by omega) h; omega
  by_cases g2 : (l.length : Int) > 2 * (v.length : Int)
  · by_cases g4 : (l.length : Int) > 4 * (v.length : Int)
    · exact Ev.congr (fun k => by rw [if_pos g2, if_neg (r2 g2), if_pos g4, decide_eq_false (r4 g4)]) hgo
    · exact Ev.congr (fun k => by rw [if_pos g2, if_neg (r2 g2), if_neg g4]) hgo
  · exact Ev.congr (fun k => by rw [if_neg g2, if_neg (show ¬ (l.length : Int) > 4 * (v.length : Int) by omega)]) hgo

end Go.Proofs.Ytigecigoomofdaa.Pure
