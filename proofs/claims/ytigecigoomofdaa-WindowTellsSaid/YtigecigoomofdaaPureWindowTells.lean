/- For any runs, any pieces and any numbers: each window's runs, the richest window and the holes are what the reference tells, or there is none; the runs stay. Conditions: none beyond the row's own. -/
import Derived.Test.YtigecigoomofdaaPWindowTellsx12
namespace Go.Proofs.Ytigecigoomofdaa.Pure
open Go.RowKit Go.Proofs.Ytigecigoomofdaa.PWindowTells Go.Proofs.YtigecigoomofdaaW.PrintWords Go.Proofs.YtigecigoomofdaaW.PrintLast Go.Proofs.YtigecigoomofdaaW.PrintMore
set_option linter.unusedVariables false
set_option linter.unusedSimpArgs false

theorem wr {x : Int} (h0 : -9223372036854775808 ≤ x) (h1 : x ≤ 9223372036854775807) : wrap64 x = x := by unfold wrap64; omega
theorem wr1 {i n : Int} (h0 : 0 ≤ i) (h : i < n) (hn : n ≤ 140737488351232) : wrap64 (i + 1) = i + 1 := wr (by omega) (by omega)

/-- p holds from i on, d times -/
def allB (p : Int → Bool) (i : Int) : Nat → Bool
  | 0 => true
  | d + 1 => p i && allB p (i + 1) d
theorem allB_true {p : Int → Bool} {i : Int} {d : Nat} (h : allB p i d = true) : ∀ j, i ≤ j → j < i + d → p j = true := by
  induction d generalizing i with
  | zero => intro j h1 h2; omega
  | succ d ih =>
    simp only [allB, Bool.and_eq_true] at h
    intro j h1 h2
    by_cases e : j = i
    · subst e; exact h.1
    · exact ih h.2 j (by omega) (by omega)
theorem allB_of {p : Int → Bool} {i : Int} {d : Nat} (h : ∀ j, i ≤ j → j < i + d → p j = true) : allB p i d = true := by
  induction d generalizing i with
  | zero => rfl
  | succ d ih => simp only [allB, Bool.and_eq_true]; exact ⟨h i (by omega) (by omega), ih fun j h1 h2 => h j (by omega) (by omega)⟩

abbrev R := S39
/-! ### Form -/
def good1 (x : R) : Prop := 0 ≤ x.f0 ∧ x.f0 ≤ 1073741824 ∧ 0 ≤ x.f2 ∧ x.f2 ≤ 1073741824 ∧ 1 ≤ x.f1 ∧ x.f1 ≤ 1073741824
instance (x : R) : Decidable (good1 x) := by unfold good1; exact inferInstance
def adj (p x : R) : Prop := p.f0 + p.f1 ≤ x.f0 ∧ ¬ (p.f0 + p.f1 = x.f0 ∧ p.f2 + p.f1 = x.f2)
instance (p x : R) : Decidable (adj p x) := by unfold adj; exact inferInstance
def formI (l : List R) (i : Int) : Bool := decide (good1 (rd_T39 l i)) && (decide (i = 0) || decide (adj (rd_T39 l (i - 1)) (rd_T39 l i)))
def form (l : List R) : Bool := allB (formI l) 0 l.length

theorem form_prog (l : List R) (hl : (l.length : Int) ≤ 140737488351232) (d : Nat) : ∀ (i : Int), 0 ≤ i → (l.length : Int) - i = d → (i = 0 ∨ good1 (rd_T39 l (i - 1))) →
    Ev (fun k => span_Form.l0 k l l (l.length : Int) i) (allB (formI l) i d) := by
  induction d with
  | zero =>
    intro i h0 hd _
    refine Ev.step (fun k => ?_) (Ev.now _)
    simp only [span_Form.l0, allB]
    rw [if_neg (by omega)]
  | succ d ih =>
    intro i h0 hd hp
    have hi : i < (l.length : Int) := by omega
    have hw := wr1 h0 hi hl
    have hw1 : wrap64 (i - 1) = i - 1 := wr (by omega) (by omega)
    generalize hx : rd_T39 l i = x
    have step1 : ∀ b, b = !decide (good1 x) → Ev (fun k => span_Form.j1 k l i l (l.length : Int) i b x.f0 x.f1 x.f2) (allB (formI l) i (d + 1)) := by
      intro b hb
      subst hb
      by_cases hg : good1 x
      · simp only [hg, decide_true, Bool.not_true]
        have nx := ih (i + 1) (by omega) (by omega) (Or.inr (by rw [show i + 1 - 1 = i by omega, hx]; exact hg))
        by_cases hi0 : i = 0
        · refine Ev.step (f := fun k => span_Form.l0 k l l (l.length : Int) (i + 1)) (fun k => ?_) ?_
          · simp only [span_Form.j1]
            rw [if_neg (by decide), if_pos hi0, hw]
          · have hfi : formI l i = true := by
              unfold formI
              rw [hx, decide_eq_true hg, decide_eq_true hi0]; rfl
            simp only [allB, hfi, Bool.true_and]
            exact nx
        · have hgp : good1 (rd_T39 l (i - 1)) := hp.resolve_left hi0
          generalize hpx : rd_T39 l (i - 1) = p at hgp
          obtain ⟨a0, a1, a2, a3, a4, a5⟩ := hg
          obtain ⟨b0, b1, b2, b3, b4, b5⟩ := hgp
          have e1 : wrap64 (x.f0 - p.f0) = x.f0 - p.f0 := wr (by omega) (by omega)
          have e2 : wrap64 (x.f2 - p.f2) = x.f2 - p.f2 := wr (by omega) (by omega)
          have hfi : formI l i = decide (adj p x) := by
            have hgx : good1 x := ⟨a0, a1, a2, a3, a4, a5⟩
            simp [formI, hx, hpx, hi0, hgx]
          by_cases c1 : x.f0 - p.f0 < p.f1
          · refine Ev.step (f := fun _ => some false) (fun k => ?_) (by
              have : ¬ adj p x := fun h => by have := h.1; omega
              simp only [allB, hfi, this, decide_false, Bool.false_and]; exact Ev.now _)
            simp only [span_Form.j1]
            rw [if_neg (by decide), if_neg hi0, hw1, if_pos (by omega), if_pos (by omega), hpx, e1, if_pos c1]
          · by_cases c2 : x.f0 - p.f0 = p.f1
            · by_cases c3 : x.f2 - p.f2 = p.f1
              · refine Ev.step (f := fun _ => some false) (fun k => ?_) (by
                  have : ¬ adj p x := fun h => h.2 ⟨by omega, by omega⟩
                  simp only [allB, hfi, this, decide_false, Bool.false_and]; exact Ev.now _)
                simp only [span_Form.j1]
                rw [if_neg (by decide), if_neg hi0, hw1, if_pos (by omega), if_pos (by omega), hpx, e1, if_neg c1, if_pos c2, e2, if_pos c3]
              · refine Ev.step (f := fun k => span_Form.l0 k l l (l.length : Int) (i + 1)) (fun k => ?_) (by
                  have : adj p x := ⟨by omega, fun h => by omega⟩
                  simp only [allB, hfi, this, decide_true, Bool.true_and]; exact nx)
                simp only [span_Form.j1]
                rw [if_neg (by decide), if_neg hi0, hw1, if_pos (by omega), if_pos (by omega), hpx, e1, if_neg c1, if_pos c2, e2, if_neg c3, hw]
            · refine Ev.step (f := fun k => span_Form.l0 k l l (l.length : Int) (i + 1)) (fun k => ?_) (by
                have : adj p x := ⟨by omega, fun h => by omega⟩
                simp only [allB, hfi, this, decide_true, Bool.true_and]; exact nx)
              simp only [span_Form.j1]
              rw [if_neg (by decide), if_neg hi0, hw1, if_pos (by omega), if_pos (by omega), hpx, e1, if_neg c1, if_neg c2, hw]
      · simp only [hg, decide_false, Bool.not_false]
        refine Ev.step (f := fun _ => some false) (fun k => by simp only [span_Form.j1, if_true]) (by
          simp only [allB, formI, hx, hg, decide_false, Bool.false_and]; exact Ev.now _)
    have hB : (!decide (good1 x)) = (decide (x.f0 < 0) || decide (x.f0 > 1073741824) || decide (x.f2 < 0) || decide (x.f2 > 1073741824) || decide (x.f1 < 1) || decide (x.f1 > 1073741824)) := by
      by_cases hg : good1 x
      · obtain ⟨a0, a1, a2, a3, a4, a5⟩ := id hg
        rw [decide_eq_true hg, decide_eq_false (show ¬ x.f0 < 0 by omega), decide_eq_false (show ¬ x.f0 > 1073741824 by omega), decide_eq_false (show ¬ x.f2 < 0 by omega), decide_eq_false (show ¬ x.f2 > 1073741824 by omega), decide_eq_false (show ¬ x.f1 < 1 by omega), decide_eq_false (show ¬ x.f1 > 1073741824 by omega)]
        rfl
      · rw [decide_eq_false hg]
        have : x.f0 < 0 ∨ x.f0 > 1073741824 ∨ x.f2 < 0 ∨ x.f2 > 1073741824 ∨ x.f1 < 1 ∨ x.f1 > 1073741824 := by
          unfold good1 at hg; omega
        simp only [Bool.not_false]
        symm
        simp only [Bool.or_eq_true, decide_eq_true_eq]
        omega
    refine Ev.step (f := fun k => span_Form.j1 k l i l (l.length : Int) i (!decide (good1 x)) x.f0 x.f1 x.f2) (fun k => ?_) (step1 _ rfl)
    simp only [span_Form.l0]
    rw [if_pos hi, if_pos h0, if_pos hi, hx, hB]
    by_cases c1 : x.f0 < 0
    · simp [c1]
    by_cases c2 : x.f0 > 1073741824
    · simp [c1, c2]
    by_cases c3 : x.f2 < 0
    · simp [c1, c2, c3]
    by_cases c4 : x.f2 > 1073741824
    · simp [c1, c2, c3, c4]
    by_cases c5 : x.f1 < 1
    · simp [c1, c2, c3, c4, c5]
    simp [c1, c2, c3, c4, c5]

theorem form_ev (l : List R) (hl : (l.length : Int) ≤ 140737488351232) : Ev (fun k => span_Form.f k l) (form l) :=
  Ev.congr (fun k => by rw [span_Form.f]) (form_prog l hl l.length 0 (by omega) (by omega) (Or.inl rfl))

theorem form_at {l : List R} (h : form l = true) {i : Int} (h0 : 0 ≤ i) (h1 : i < (l.length : Int)) : good1 (rd_T39 l i) ∧ (i = 0 ∨ adj (rd_T39 l (i - 1)) (rd_T39 l i)) := by
  have := allB_true h i h0 (by omega)
  unfold formI at this
  simpa using this

theorem new_loop (d : Nat) : ∀ (t : List Int) (i : Int), t.length = 512 → 0 ≤ i → 512 - i = d → (∀ j, 0 ≤ j → j < i → rd t j = -1) → ∃ u, Ev (fun k => ferruleref9_New.l0 k 512 t i) u ∧ u.length = 512 ∧ ∀ j, 0 ≤ j → j < 512 → rd u j = -1 := by
  induction d with
  | zero => intro t i ht h0 hd h; exact ⟨t, Ev.step (fun k => by simp only [ferruleref9_New.l0]; rw [if_neg (by omega)]) (Ev.now _), ht, fun j h1 h2 => h j h1 (by omega)⟩
  | succ d ih =>
    intro t i ht h0 hd h
    obtain ⟨u, hE, hu⟩ := ih (t.set i.toNat (-1)) (i + 1) (by simpa using ht) (by omega) (by omega) (by
      intro j h1 h2
      unfold rd
      by_cases e : j = i
      · subst e; simp [List.getD, show j.toNat < t.length by omega]
      · have := h j h1 (by omega)
        unfold rd at this
        rw [List.getD_eq_getElem?_getD, List.getElem?_set_ne (by omega), ← List.getD_eq_getElem?_getD]; exact this)
    refine ⟨u, Ev.step (fun k => ?_) hE, hu⟩
    simp only [ferruleref9_New.l0]
    rw [if_pos (by omega), if_pos h0, if_pos (by omega), wr1 h0 (show i < 512 by omega) (by omega)]
theorem new_ev : ∃ u, Ev (fun k => ferruleref9_New.f k 512) u ∧ u.length = 512 ∧ ∀ j, 0 ≤ j → j < 512 → rd u j = -1 := by
  obtain ⟨u, hE, hu⟩ := new_loop 512 (List.replicate 512 0) 0 List.length_replicate (by omega) (by omega) (fun j h0 h1 => by omega)
  exact ⟨u, Ev.congr (fun k => by rw [ferruleref9_New.f, if_pos (by omega), if_pos (by decide)]; rfl) hE, hu⟩

/-- a table of pages -/
def tab (t : List Int) : Prop := t.length = 512 ∧ ∀ j, 0 ≤ j → j < 512 → -1 ≤ rd t j ∧ rd t j ≤ 1049088
theorem rd_set (t : List Int) (i j v : Int) (hi : 0 ≤ i) (hj : 0 ≤ j) (hl : i < (t.length : Int)) : rd (t.set i.toNat v) j = if j = i then v else rd t j := by
  unfold rd
  by_cases e : j = i
  · subst e; rw [if_pos rfl]; simp [List.getD, show j.toNat < t.length by omega]
  · rw [if_neg e, List.getD_eq_getElem?_getD, List.getElem?_set_ne (by omega), ← List.getD_eq_getElem?_getD]
theorem tab_set {t : List Int} (h : tab t) {i v : Int} (h0 : 0 ≤ i) (h1 : i < 512) (v0 : -1 ≤ v) (v1 : v ≤ 1049088) : tab (t.set i.toNat v) := by
  refine ⟨by simpa using h.1, fun j j0 j1 => ?_⟩
  rw [rd_set t i j v h0 j0 (by have := h.1; omega)]
  split
  · exact ⟨v0, v1⟩
  · exact h.2 j j0 j1

theorem rd_app (o : List R) (x : R) (i : Int) (h0 : 0 ≤ i) (h1 : i < (o.length : Int)) : rd_T39 (o ++ [x]) i = rd_T39 o i := by
  unfold rd_T39
  rw [List.getD_eq_getElem?_getD, List.getElem?_append_left (by omega), ← List.getD_eq_getElem?_getD]
theorem rd_setR (o : List R) (x : R) (i j : Int) (hi : 0 ≤ i) (hj : 0 ≤ j) (hl : i < (o.length : Int)) : rd_T39 (o.set i.toNat x) j = if j = i then x else rd_T39 o j := by
  unfold rd_T39
  by_cases e : j = i
  · subst e; rw [if_pos rfl]; simp [List.getD, show j.toNat < o.length by omega]
  · rw [if_neg e, List.getD_eq_getElem?_getD, List.getElem?_set_ne (by omega), ← List.getD_eq_getElem?_getD]
/-! ### Runs of a table -/
/-- runs below n, in their form -/
def ok2 (l : List R) (n : Int) : Prop := (l.length : Int) ≤ n ∧ ∀ i, 0 ≤ i → i < (l.length : Int) → 0 ≤ (rd_T39 l i).f0 ∧ 1 ≤ (rd_T39 l i).f1 ∧ (rd_T39 l i).f0 + (rd_T39 l i).f1 ≤ n ∧ 0 ≤ (rd_T39 l i).f2 ∧ (rd_T39 l i).f2 ≤ 1049088 ∧ (0 < i → adj (rd_T39 l (i - 1)) (rd_T39 l i))
/-- what the last run is, ahead of sector i -/
def lastok (t : List Int) (o : List R) (i : Int) : Prop :=
  (i > 0 → rd t (i - 1) ≥ 0 → 0 < (o.length : Int) ∧ (rd_T39 o ((o.length : Int) - 1)).f0 + (rd_T39 o ((o.length : Int) - 1)).f1 = i ∧ (rd_T39 o ((o.length : Int) - 1)).f2 + (rd_T39 o ((o.length : Int) - 1)).f1 = rd t (i - 1) + 1) ∧
  (¬ (i > 0 ∧ rd t (i - 1) ≥ 0) → (o.length : Int) = 0 ∨ (rd_T39 o ((o.length : Int) - 1)).f0 + (rd_T39 o ((o.length : Int) - 1)).f1 < i)
theorem rd_last (o : List R) (x : R) (n : Int) (hn : n = o.length) : rd_T39 (o ++ [x]) n = x := by
  subst hn
  simp [rd_T39, List.getD]
theorem ok2_more {o : List R} {n : Int} (h : ok2 o n) : ok2 o (n + 1) :=
  ⟨by have := h.1; omega, fun i i0 i1 => by obtain ⟨a, b, c, d, e, f⟩ := h.2 i i0 i1; exact ⟨a, b, by omega, d, e, f⟩⟩
theorem ok2_app {t : List Int} {o : List R} {i c : Int} (h : ok2 o i) (hl : lastok t o i) (h0 : 0 ≤ i) (hc : 0 ≤ c) (hc2 : c ≤ 1049088) (hn : i > 0 → rd t (i - 1) ≥ 0 → rd t (i - 1) + 1 ≠ c) : ok2 (o ++ [(⟨i, 1, c⟩ : R)]) (i + 1) := by
  have hlen := h.1
  refine ⟨by simp; omega, fun j j0 j1 => ?_⟩
  simp only [List.length_append, List.length_cons, List.length_nil] at j1
  by_cases e : j < (o.length : Int)
  · rw [rd_app o _ j j0 e]
    obtain ⟨a, b, c, d, e', f⟩ := h.2 j j0 e
    refine ⟨a, b, by omega, d, e', fun hj => ?_⟩
    rw [rd_app o _ (j - 1) (by omega) (by omega)]
    exact f hj
  · rw [rd_last o _ j (by omega)]
    refine ⟨h0, by show (1 : Int) ≤ 1; omega, by show i + 1 ≤ i + 1; omega, hc, hc2, fun hj => ?_⟩
    have hj1 : j - 1 = (o.length : Int) - 1 := by omega
    rw [rd_app o _ (j - 1) (by omega) (by omega), hj1]
    obtain ⟨a, b, c', d, e', f⟩ := h.2 ((o.length : Int) - 1) (by omega) (by omega)
    refine ⟨c', fun ⟨q1, q2⟩ => ?_⟩
    have q1' : (rd_T39 o ((o.length : Int) - 1)).f0 + (rd_T39 o ((o.length : Int) - 1)).f1 = i := q1
    have q2' : (rd_T39 o ((o.length : Int) - 1)).f2 + (rd_T39 o ((o.length : Int) - 1)).f1 = c := q2
    by_cases g : i > 0 ∧ rd t (i - 1) ≥ 0
    · have z := (hl.1 g.1 g.2).2.2
      exact hn g.1 g.2 (by omega)
    · rcases hl.2 g with z | z <;> omega
theorem lastok_app {t : List Int} {o : List R} {i : Int} (h0 : 0 ≤ i) (hge : rd t i ≥ 0) : lastok t (o ++ [(⟨i, 1, rd t i⟩ : R)]) (i + 1) := by
  have e : ((o ++ [(⟨i, 1, rd t i⟩ : R)]).length : Int) - 1 = (o.length : Int) := by simp
  rw [show i = i + 1 - 1 by omega] at hge
  refine ⟨fun _ _ => ?_, fun h => absurd ⟨by omega, hge⟩ h⟩
  rw [e, rd_last o _ _ rfl, show i + 1 - 1 = i by omega]
  exact ⟨by simp <;> omega, rfl, rfl⟩
theorem last_set (o : List R) (x : R) (ho : 0 < (o.length : Int)) : rd_T39 (o.set ((o.length : Int) - 1).toNat x) ((o.length : Int) - 1) = x := by
  rw [rd_setR o x _ _ (by omega) (by omega) (by omega), if_pos rfl]
theorem ok2_last {o : List R} {n : Int} (h : ok2 o n) (ho : 0 < (o.length : Int)) (hn : n ≤ 1000000) (he : (rd_T39 o ((o.length : Int) - 1)).f0 + (rd_T39 o ((o.length : Int) - 1)).f1 = n) :
    ok2 (o.set ((o.length : Int) - 1).toNat (⟨(rd_T39 o ((o.length : Int) - 1)).f0, wrap64 ((rd_T39 o ((o.length : Int) - 1)).f1 + 1), (rd_T39 o ((o.length : Int) - 1)).f2⟩ : R)) (n + 1) := by
  have hlen := h.1
  refine ⟨by simp; omega, fun i i0 i1 => ?_⟩
  simp only [List.length_set] at i1
  obtain ⟨a, b, c, d, e, f⟩ := h.2 ((o.length : Int) - 1) (by omega) (by omega)
  have ew : wrap64 ((rd_T39 o ((o.length : Int) - 1)).f1 + 1) = (rd_T39 o ((o.length : Int) - 1)).f1 + 1 := wr (by omega) (by omega)
  rw [rd_setR o _ _ i (by omega) i0 (by omega), ew]
  by_cases hi : i = (o.length : Int) - 1
  · rw [if_pos hi]
    refine ⟨a, by show 1 ≤ _ + 1; omega, by show (rd_T39 o ((o.length : Int) - 1)).f0 + ((rd_T39 o ((o.length : Int) - 1)).f1 + 1) ≤ n + 1; omega, d, e, fun hj => ?_⟩
    rw [rd_setR o _ _ (i - 1) (by omega) (by omega) (by omega), if_neg (by omega)]
    have := f (by omega)
    rw [hi]
    exact ⟨this.1, this.2⟩
  · rw [if_neg hi]
    obtain ⟨a', b', c', d', e', f'⟩ := h.2 i i0 i1
    refine ⟨a', b', by omega, d', e', fun hj => ?_⟩
    rw [rd_setR o _ _ (i - 1) (by omega) (by omega) (by omega), if_neg (by omega)]
    exact f' hj
theorem runs_loop (t : List Int) (ht : tab t) (d : Nat) : ∀ (o : List R) (i : Int), 0 ≤ i → 512 - i = d → ok2 o i → lastok t o i → ∃ u, Ev (fun k => ferruleref9_Runs.l0 k t o i) u ∧ ok2 u 512 := by
  induction d with
  | zero =>
    intro o i h0 hd ho _
    obtain rfl : i = 512 := by omega
    exact ⟨o, Ev.step (fun k => by simp only [ferruleref9_Runs.l0]; rw [if_neg (by have := ht.1; omega)]) (Ev.now _), ho⟩
  | succ d ih =>
    intro o i h0 hd ho hlast
    have hl := ht.1
    have hi : i < (t.length : Int) := by omega
    have hw := wr1 h0 hi (by omega)
    have hti := ht.2 i h0 (by omega)
    have hlen := ho.1
    have app : rd t i ≥ 0 → (i > 0 → rd t (i - 1) ≥ 0 → rd t (i - 1) + 1 ≠ rd t i) → ∃ u, Ev (fun k => ferruleref9_Runs.l0 k t (o ++ [(⟨i, 1, rd t i⟩ : R)]) (i + 1)) u ∧ ok2 u 512 := fun hge hne =>
      ih (o ++ [(⟨i, 1, rd t i⟩ : R)]) (i + 1) (by omega) (by omega) (ok2_app ho hlast h0 hge hti.2 hne) (lastok_app h0 hge)
    by_cases c : rd t i < 0
    · obtain ⟨u, hE, hu⟩ := ih o (i + 1) (by omega) (by omega) (ok2_more ho) ⟨fun _ h => by rw [show i + 1 - 1 = i by omega] at h; omega, fun _ => by
        by_cases z : (o.length : Int) = 0
        · exact Or.inl z
        · have := (ho.2 ((o.length : Int) - 1) (by omega) (by omega)).2.2.1
          exact Or.inr (by omega)⟩
      exact ⟨u, Ev.step (fun k => by simp only [ferruleref9_Runs.l0]; rw [if_pos hi, if_pos h0, if_pos c, hw]) hE, hu⟩
    · by_cases c1 : i > 0
      · have hw1 : wrap64 (i - 1) = i - 1 := wr (by omega) (by omega)
        have htp := ht.2 (i - 1) (by omega) (by omega)
        have hw2 : wrap64 (rd t (i - 1) + 1) = rd t (i - 1) + 1 := wr (by omega) (by omega)
        by_cases c2 : rd t (i - 1) ≥ 0
        · by_cases c3 : rd t (i - 1) + 1 = rd t i
          · obtain ⟨hp, hp2, hp3⟩ := hlast.1 c1 c2
            have hw3 : wrap64 ((o.length : Int) - 1) = (o.length : Int) - 1 := wr (by omega) (by omega)
            have hb := ho.2 ((o.length : Int) - 1) (by omega) (by omega)
            have ew : wrap64 ((rd_T39 o ((o.length : Int) - 1)).f1 + 1) = (rd_T39 o ((o.length : Int) - 1)).f1 + 1 := wr (by omega) (by omega)
            obtain ⟨u, hE, hu⟩ := ih _ (i + 1) (by omega) (by omega) (ok2_last ho hp (by omega) hp2) ⟨fun _ _ => by
              rw [List.length_set, last_set o _ hp, show i + 1 - 1 = i by omega]
              refine ⟨hp, ?_, ?_⟩
              · show (rd_T39 o ((o.length : Int) - 1)).f0 + wrap64 ((rd_T39 o ((o.length : Int) - 1)).f1 + 1) = i + 1
                rw [ew]; omega
              · show (rd_T39 o ((o.length : Int) - 1)).f2 + wrap64 ((rd_T39 o ((o.length : Int) - 1)).f1 + 1) = rd t i + 1
                rw [ew]; omega, fun h => by rw [show i + 1 - 1 = i by omega] at h; omega⟩
            refine ⟨u, Ev.step (fun k => ?_) hE, hu⟩
            simp only [ferruleref9_Runs.l0]
            rw [if_pos hi, if_pos h0, if_neg c, if_pos c1, hw1, if_pos (by omega), if_pos (by omega), if_pos c2, hw2, if_pos c3, hw3, if_pos (by omega), if_pos (by omega), hw]
          · obtain ⟨u, hE, hu⟩ := app (by omega) (fun _ _ => c3)
            exact ⟨u, Ev.step (fun k => by simp only [ferruleref9_Runs.l0]; rw [if_pos hi, if_pos h0, if_neg c, if_pos c1, hw1, if_pos (by omega), if_pos (by omega), if_pos c2, hw2, if_neg c3, if_pos (by omega), hw]) hE, hu⟩
        · obtain ⟨u, hE, hu⟩ := app (by omega) (fun _ h => absurd h c2)
          exact ⟨u, Ev.step (fun k => by simp only [ferruleref9_Runs.l0]; rw [if_pos hi, if_pos h0, if_neg c, if_pos c1, hw1, if_pos (by omega), if_pos (by omega), if_neg c2, if_pos (by omega), hw]) hE, hu⟩
      · obtain ⟨u, hE, hu⟩ := app (by omega) (fun h => absurd h c1)
        exact ⟨u, Ev.step (fun k => by simp only [ferruleref9_Runs.l0]; rw [if_pos hi, if_pos h0, if_neg c, if_neg c1, if_pos (by omega), hw]) hE, hu⟩
theorem runs_ev (t : List Int) (ht : tab t) : ∃ u, Ev (fun k => ferruleref9_Runs.f k t) u ∧ ok2 u 512 := by
  obtain ⟨u, hE, hu⟩ := runs_loop t ht 512 [] 0 (by omega) (by omega) ⟨by simp, fun i h0 h1 => by simp at h1; omega⟩ ⟨fun h => by omega, fun _ => Or.inl (by simp)⟩
  exact ⟨u, Ev.congr (fun k => by rw [ferruleref9_Runs.f, if_pos (by omega)]; rfl) hE, hu⟩
abbrev Pc := S38
theorem fold_one (p : List Pc) (i : Int) (x : Pc) (hw : wrap64 (i + 1) = i + 1) (g0 : 0 ≤ x.f0) (g1 : x.f0 ≤ 512) (g2 : 0 ≤ x.f2) (g3 : x.f2 ≤ 1048576) (hx : x.f1 ≤ 9223372036854775807)
    (Q : List R → Prop) (d : Nat) : ∀ (t : List Int) (j : Int), tab t → 0 ≤ j → 512 - x.f0 - j = d → (∀ t, tab t → ∃ u, Ev (fun k => ferruleref9_Fold.l0 k p t (i + 1)) u ∧ Q u) →
    ∃ u, Ev (fun k => ferruleref9_Fold.l1 k p t i j x.f0 x.f1 x.f2) u ∧ Q u := by
  induction d with
  | zero =>
    intro t j ht h0 hd h
    obtain ⟨u, hE, hu⟩ := h t ht
    refine ⟨u, Ev.step (fun k => ?_) hE, hu⟩
    simp only [ferruleref9_Fold.l1]
    have e : wrap64 (x.f0 + j) = x.f0 + j := wr (by omega) (by omega)
    rw [e, if_neg (show ¬ x.f0 + j < 512 by omega), hw, ite_self]
  | succ d ih =>
    intro t j ht h0 hd h
    have e : wrap64 (x.f0 + j) = x.f0 + j := wr (by omega) (by omega)
    have e2 : wrap64 (x.f2 + j) = x.f2 + j := wr (by omega) (by omega)
    by_cases c : j < x.f1
    · obtain ⟨u, hE, hu⟩ := ih (t.set (x.f0 + j).toNat (x.f2 + j)) (j + 1) (tab_set ht (by omega) (by omega) (by omega) (by omega)) (by omega) (by omega) h
      refine ⟨u, Ev.step (fun k => ?_) hE, hu⟩
      simp only [ferruleref9_Fold.l1]
      rw [if_pos c, e, if_pos (by omega), if_pos (by omega), if_pos (by have := ht.1; omega), e2, wr1 h0 (show j < 513 by omega) (by omega)]
    · obtain ⟨u, hE, hu⟩ := h t ht
      refine ⟨u, Ev.step (fun k => ?_) hE, hu⟩
      simp only [ferruleref9_Fold.l1]
      rw [if_neg c, hw]

theorem fold_loop (p : List Pc) (hp : (p.length : Int) ≤ 140737488351232) (hall : ∀ i, 0 ≤ i → i < (p.length : Int) → (rd_T38 p i).f1 ≤ 9223372036854775807) (d : Nat) : ∀ (t : List Int) (i : Int), tab t → 0 ≤ i → (p.length : Int) - i = d →
    ∃ u, Ev (fun k => ferruleref9_Fold.l0 k p t i) u ∧ ok2 u 512 := by
  induction d with
  | zero =>
    intro t i ht h0 hd
    obtain ⟨u, hE, hu⟩ := runs_ev t ht
    refine ⟨u, Ev.step (fun k => by simp only [ferruleref9_Fold.l0]; rw [if_neg (by omega)]) (Ev.bind hE (Ev.now _)), hu⟩
  | succ d ih =>
    intro t i ht h0 hd
    have hi : i < (p.length : Int) := by omega
    have hw := wr1 h0 hi hp
    have hx := hall i h0 hi
    generalize hpx : rd_T38 p i = x at hx
    have skip : ∃ u, Ev (fun k => ferruleref9_Fold.j1 k p t i true x.f0 x.f1 x.f2) u ∧ ok2 u 512 := by
      obtain ⟨u, hE, hu⟩ := ih t (i + 1) ht (by omega) (by omega)
      exact ⟨u, Ev.step (fun k => by simp only [ferruleref9_Fold.j1, if_true]; rw [hw]) hE, hu⟩
    have via : ∀ b, (∃ u, Ev (fun k => ferruleref9_Fold.j1 k p t i b x.f0 x.f1 x.f2) u ∧ ok2 u 512) → (∀ k, ferruleref9_Fold.l0 (k + 1) p t i = ferruleref9_Fold.j1 k p t i b x.f0 x.f1 x.f2) → ∃ u, Ev (fun k => ferruleref9_Fold.l0 k p t i) u ∧ ok2 u 512 := by
      intro b ⟨u, hE, hu⟩ hk
      exact ⟨u, Ev.step hk hE, hu⟩
    by_cases c1 : x.f2 < 0
    · exact via true skip (fun k => by simp only [ferruleref9_Fold.l0]; rw [if_pos hi, if_pos h0, hpx, if_pos c1])
    by_cases c2 : x.f2 > 1048576
    · exact via true skip (fun k => by simp only [ferruleref9_Fold.l0]; rw [if_pos hi, if_pos h0, hpx, if_neg c1, if_pos c2])
    by_cases c3 : x.f1 < 1
    · exact via true skip (fun k => by simp only [ferruleref9_Fold.l0]; rw [if_pos hi, if_pos h0, hpx, if_neg c1, if_neg c2, if_pos c3])
    by_cases c4 : x.f0 < 0
    · exact via true skip (fun k => by simp only [ferruleref9_Fold.l0]; rw [if_pos hi, if_pos h0, hpx, if_neg c1, if_neg c2, if_neg c3, if_pos c4])
    by_cases c5 : x.f0 > 512
    · exact via true skip (fun k => by simp only [ferruleref9_Fold.l0]; rw [if_pos hi, if_pos h0, hpx, if_neg c1, if_neg c2, if_neg c3, if_neg c4, decide_eq_true c5])
    refine via false ?_ (fun k => by simp only [ferruleref9_Fold.l0]; rw [if_pos hi, if_pos h0, hpx, if_neg c1, if_neg c2, if_neg c3, if_neg c4, decide_eq_false c5])
    obtain ⟨u, hE, hu⟩ := fold_one p i x hw (by omega) (by omega) (by omega) (by omega) hx (fun u => ok2 u 512) (512 - x.f0).toNat t 0 ht (by omega) (by omega) (fun t ht => ih t (i + 1) ht (by omega) (by omega))
    exact ⟨u, Ev.step (fun k => by simp only [ferruleref9_Fold.j1, Bool.false_eq_true, if_false]) hE, hu⟩
theorem fold_ev (p : List Pc) (hp : (p.length : Int) ≤ 140737488351232) (hall : ∀ i, 0 ≤ i → i < (p.length : Int) → (rd_T38 p i).f1 ≤ 9223372036854775807) : ∃ u, Ev (fun k => ferruleref9_Fold.f k p) u ∧ ok2 u 512 := by
  obtain ⟨t, hE, ht, hall2⟩ := new_ev
  obtain ⟨u, hE2, hu⟩ := fold_loop p hp hall p.length t 0 ⟨ht, fun j h0 h1 => by rw [hall2 j h0 h1]; omega⟩ (by omega) (by omega)
  exact ⟨u, Ev.congr (fun k => by rw [ferruleref9_Fold.f]) (Ev.bind hE hE2), hu⟩

theorem rd_eq_of' {a b : List Int} (hl : a.length = b.length) (h : ∀ i : Int, 0 ≤ i → i < (a.length : Int) → rd a i = rd b i) : a = b := by
  apply List.ext_getElem hl
  intro j h1 h2
  have := h (j : Int) (by omega) (by omega)
  unfold rd at this
  simpa [h1, h2] using this
/-! ### Many, by the program and by the reference -/
def okc (l : List R) (n : Int) : Prop := (l.length : Int) ≤ 512 ∧ ∀ i, 0 ≤ i → i < (l.length : Int) → 0 ≤ (rd_T39 l i).f0 ∧ 1 ≤ (rd_T39 l i).f1 ∧ (rd_T39 l i).f0 + (rd_T39 l i).f1 ≤ n ∧ 0 ≤ (rd_T39 l i).f2 ∧ (rd_T39 l i).f2 ≤ 1073741824 ∧ (0 < i → adj (rd_T39 l (i - 1)) (rd_T39 l i))
/-- run i ends at n or ahead of it -/
def endC (l : List R) (n : Int) (i : Int) : Bool := decide ((rd_T39 l i).f0 + (rd_T39 l i).f1 ≤ n)
theorem good_of {l : List R} (h : form l = true) {i : Int} (h0 : 0 ≤ i) (h1 : i < (l.length : Int)) : good1 (rd_T39 l i) := (form_at h h0 h1).1
theorem okc_of {l : List R} {n : Int} (hl : (l.length : Int) ≤ 512) (hf : form l = true) (he : allB (endC l n) 0 l.length = true) : okc l n := by
  refine ⟨hl, fun i i0 i1 => ?_⟩
  obtain ⟨⟨a0, a1, a2, a3, a4, a5⟩, hadj⟩ := form_at hf i0 i1
  have := of_decide_eq_true (allB_true he i i0 (by omega))
  refine ⟨a0, a4, this, a2, a3, fun hi => ?_⟩
  rcases hadj with h | h
  · omega
  · exact h
def incs (v : List Int) (w : Int) : Nat → List Int
  | 0 => v
  | d + 1 => incs (v.set w.toNat (wrap64 (rd v w + 1))) (w + 1) d
theorem incs_length (d : Nat) : ∀ (v : List Int) (w : Int), (incs v w d).length = v.length := by
  induction d with
  | zero => intro v w; rfl
  | succ d ih => intro v w; rw [incs, ih, List.length_set]
def runsW (win : Int) (l : List R) (v : List Int) (i : Int) : Nat → List Int
  | 0 => v
  | d + 1 => runsW win l (incs v ((rd_T39 l i).f0 / win) (((rd_T39 l i).f0 + (rd_T39 l i).f1 - 1) / win - (rd_T39 l i).f0 / win + 1).toNat) (i + 1) d
theorem runsW_length (win : Int) (l : List R) (d : Nat) : ∀ (v : List Int) (i : Int), (runsW win l v i d).length = v.length := by
  induction d with
  | zero => intro v i; rfl
  | succ d ih => intro v i; rw [runsW, ih, incs_length]
theorem win_c {win cap a : Int} (h1 : 1 ≤ win) (hc : cap ≤ 512) (h0 : 0 ≤ a) (h2 : a ≤ cap - 1) : 0 ≤ a / win ∧ a / win ≤ (cap - 1) / win ∧ (cap - 1) / win ≤ 511 :=
  ⟨Int.ediv_nonneg h0 (by omega), Int.ediv_le_ediv (by omega) h2, Int.le_trans (Int.ediv_le_self _ (by omega)) (by omega)⟩
theorem incs_prog (l : List R) (i cap win : Int) (x : R) (h1 : 1 ≤ win) (h2 : win ≤ cap) (hc : cap ≤ 512) (hx0 : 0 ≤ x.f0) (hx1 : 1 ≤ x.f1) (hx2 : x.f0 + x.f1 ≤ cap) (hwi : wrap64 (i + 1) = i + 1) (r : List Int × Int) (d : Nat) :
    ∀ (v : List Int) (w : Int), (v.length : Int) = (cap - 1) / win + 1 → 0 ≤ w → (x.f0 + x.f1 - 1) / win + 1 - w = d →
    Ev (fun k => window_Many.l0 k cap win (incs v w d) l (l.length : Int) (i + 1)) r → Ev (fun k => window_Many.l1 k cap win v w l (l.length : Int) i x.f0 x.f1 x.f2) r := by
  have hE := win_c h1 hc (show 0 ≤ x.f0 + x.f1 - 1 by omega) (show x.f0 + x.f1 - 1 ≤ cap - 1 by omega)
  have eE : wrap64 (Int.tdiv (wrap64 ((wrap64 (x.f0 + x.f1)) - 1)) win) = (x.f0 + x.f1 - 1) / win := by
    rw [wr (x := x.f0 + x.f1) (by omega) (by omega), wr (x := x.f0 + x.f1 - 1) (by omega) (by omega), Int.tdiv_eq_ediv_of_nonneg (by omega), wr (by omega) (by omega)]
  induction d with
  | zero =>
    intro v w hv h0 hd h
    refine Ev.step (fun k => ?_) h
    simp only [window_Many.l1, incs]
    rw [if_neg (by omega), eE, if_neg (by omega), hwi]
  | succ d ih =>
    intro v w hv h0 hd h
    have hw : w < (v.length : Int) := by omega
    refine Ev.step (fun k => ?_) (ih (v.set w.toNat (wrap64 (rd v w + 1))) (w + 1) (by rw [List.length_set]; exact hv) (by omega) (by omega) h)
    simp only [window_Many.l1]
    rw [if_neg (by omega), eE, if_pos (by omega), if_pos h0, if_pos hw, wr (x := w + 1) (by omega) (by omega)]
theorem runsW_prog (l : List R) (hl : (l.length : Int) ≤ 512) (hf : form l = true) (cap win : Int) (h1 : 1 ≤ win) (h2 : win ≤ cap) (hc : cap ≤ 512) (d : Nat) : ∀ (v : List Int) (i : Int), 0 ≤ i → (l.length : Int) - i = d → (v.length : Int) = (cap - 1) / win + 1 →
    Ev (fun k => window_Many.l0 k cap win v l (l.length : Int) i) (if allB (endC l cap) i d = true then (runsW win l v i d, 0) else ([], 1)) := by
  induction d with
  | zero =>
    intro v i h0 hd hv
    refine Ev.step (fun k => ?_) (Ev.now _)
    simp only [window_Many.l0, allB, runsW]
    rw [if_neg (by omega)]
    simp
  | succ d ih =>
    intro v i h0 hd hv
    have hi : i < (l.length : Int) := by omega
    obtain ⟨a0, a1, a2, a3, a4, a5⟩ := good_of hf h0 hi
    have hwi := wr1 h0 hi (by omega)
    have key : Ev (fun k => window_Many.j2 k cap win v l (l.length : Int) i (!endC l cap i) (rd_T39 l i).f0 (rd_T39 l i).f1 (rd_T39 l i).f2) (if allB (endC l cap) i (d + 1) = true then (runsW win l v i (d + 1), 0) else ([], 1)) := by
      cases hI : endC l cap i with
      | false =>
        simp only [allB, hI, Bool.false_and, Bool.false_eq_true, if_false]
        exact Ev.step (fun k => by simp only [window_Many.j2, Bool.not_false, if_true]) (Ev.now _)
      | true =>
        have hend : (rd_T39 l i).f0 + (rd_T39 l i).f1 ≤ cap := of_decide_eq_true hI
        have hF := win_c h1 hc a0 (show (rd_T39 l i).f0 ≤ cap - 1 by omega)
        have hE := win_c h1 hc (show 0 ≤ (rd_T39 l i).f0 + (rd_T39 l i).f1 - 1 by omega) (show (rd_T39 l i).f0 + (rd_T39 l i).f1 - 1 ≤ cap - 1 by omega)
        have hFE : (rd_T39 l i).f0 / win ≤ ((rd_T39 l i).f0 + (rd_T39 l i).f1 - 1) / win := Int.ediv_le_ediv (by omega) (by omega)
        simp only [allB, hI, Bool.true_and, runsW]
        refine Ev.step (fun k => ?_) (incs_prog l i cap win (rd_T39 l i) h1 h2 hc a0 a4 hend hwi _ (((rd_T39 l i).f0 + (rd_T39 l i).f1 - 1) / win - (rd_T39 l i).f0 / win + 1).toNat v ((rd_T39 l i).f0 / win) hv (by omega) (by omega) (ih _ (i + 1) (by omega) (by omega) (by rw [incs_length]; exact hv)))
        simp only [window_Many.j2, Bool.not_true]
        rw [if_neg (by decide), if_neg (by omega), Int.tdiv_eq_ediv_of_nonneg a0, wr (x := (rd_T39 l i).f0 / win) (by omega) (by omega)]
    refine Ev.step (fun k => ?_) key
    simp only [window_Many.l0]
    rw [if_pos hi, if_pos h0, if_pos hi]
    by_cases c : (rd_T39 l i).f0 ≥ cap
    · rw [if_pos c]
      have : endC l cap i = false := decide_eq_false (by omega)
      rw [this]; rfl
    · rw [if_neg c, wr (x := cap - (rd_T39 l i).f0) (by omega) (by omega)]
      have : (!endC l cap i) = decide ((rd_T39 l i).f1 > cap - (rd_T39 l i).f0) := by
        unfold endC
        by_cases c2 : (rd_T39 l i).f0 + (rd_T39 l i).f1 ≤ cap
        · rw [decide_eq_true c2, decide_eq_false (by omega)]; rfl
        · rw [decide_eq_false c2, decide_eq_true (by omega)]; rfl
      rw [this]
/-- what Many takes -/
def manyOk (l : List R) (cap win : Int) : Prop := 1 ≤ cap ∧ cap ≤ 512 ∧ 1 ≤ win ∧ win ≤ cap ∧ (l.length : Int) ≤ 512 ∧ form l = true ∧ allB (endC l cap) 0 l.length = true
instance (l : List R) (cap win : Int) : Decidable (manyOk l cap win) := by unfold manyOk; exact inferInstance
def zerosW (cap win : Int) : List Int := List.replicate ((cap - 1) / win + 1).toNat 0
def manyV (l : List R) (cap win : Int) : List Int := runsW win l (zerosW cap win) 0 l.length
def manyR (l : List R) (cap win : Int) : List Int × Int := if manyOk l cap win then (manyV l cap win, 0) else ([], 1)
theorem many_prog (l : List R) (hl : (l.length : Int) ≤ 140737488351232) (cap win : Int) : Ev (fun k => window_Many.f k l cap win) (manyR l cap win) := by
  have out : ∀ (h : ¬ manyOk l cap win), Ev (fun k => window_Many.j0 k l cap win true) (manyR l cap win) := by
    intro h
    unfold manyR
    rw [if_neg h]
    exact Ev.step (fun k => by simp only [window_Many.j0, if_true]) (Ev.now _)
  by_cases c1 : cap < 1
  · exact Ev.congr (fun k => by rw [window_Many.f, if_pos c1]) (out (fun h => by have := h.1; omega))
  by_cases c2 : cap > 512
  · exact Ev.congr (fun k => by rw [window_Many.f, if_neg c1, if_pos c2]) (out (fun h => by have := h.2.1; omega))
  by_cases c3 : win < 1
  · exact Ev.congr (fun k => by rw [window_Many.f, if_neg c1, if_neg c2, if_pos c3]) (out (fun h => by have := h.2.2.1; omega))
  by_cases c4 : win > cap
  · exact Ev.congr (fun k => by rw [window_Many.f, if_neg c1, if_neg c2, if_neg c3, if_pos c4]) (out (fun h => by have := h.2.2.2.1; omega))
  by_cases c5 : (l.length : Int) > 512
  · exact Ev.congr (fun k => by rw [window_Many.f, if_neg c1, if_neg c2, if_neg c3, if_neg c4, if_pos c5]) (out (fun h => by have := h.2.2.2.2.1; omega))
  refine Ev.congr (f := fun k => (span_Form.f k l).bind fun t => window_Many.j0 k l cap win (!t)) (fun k => by rw [window_Many.f, if_neg c1, if_neg c2, if_neg c3, if_neg c4, if_neg c5]) ?_
  refine Ev.bind (form_ev l hl) ?_
  cases hf : form l with
  | false => exact out (fun h => by have := h.2.2.2.2.2.1; rw [hf] at this; cases this)
  | true =>
    have hq := win_c (win := win) (show 1 ≤ win by omega) (show cap ≤ 512 by omega) (show 0 ≤ cap - 1 by omega) (Int.le_refl _)
    have en : wrap64 (Int.tdiv (wrap64 ((wrap64 (cap + win)) - 1)) win) = (cap - 1) / win + 1 := by
      rw [wr (x := cap + win) (by omega) (by omega), wr (x := cap + win - 1) (by omega) (by omega), Int.tdiv_eq_ediv_of_nonneg (by omega), show cap + win - 1 = cap - 1 + 1 * win by omega, Int.add_mul_ediv_right _ _ (by omega), wr (by omega) (by omega)]
    refine Ev.step (f := fun k => window_Many.l0 k cap win (zerosW cap win) l (l.length : Int) 0) (fun k => ?_) ?_
    · simp only [window_Many.j0, Bool.not_true, Bool.false_eq_true, if_false]
      rw [if_neg (by omega), en, if_pos (by omega), if_pos (by omega)]
      rfl
    · have := runsW_prog l (by omega) hf cap win (by omega) (by omega) (by omega) l.length (zerosW cap win) 0 (by omega) (by omega) (by unfold zerosW; rw [List.length_replicate]; omega)
      unfold manyR
      by_cases ha : allB (endC l cap) 0 l.length = true
      · rw [if_pos ⟨by omega, by omega, by omega, by omega, by omega, hf, ha⟩]
        rw [if_pos ha] at this
        exact this
      · rw [if_neg (fun h => ha h.2.2.2.2.2.2)]
        rw [if_neg ha] at this
        exact this
/-- is run x in window w -/
def inW (win : Int) (x : R) (w : Int) : Int := if x.f0 / win ≤ w ∧ w ≤ (x.f0 + x.f1 - 1) / win then 1 else 0
def cw (win : Int) (l : List R) (w : Int) (i : Int) : Nat → Int
  | 0 => 0
  | d + 1 => inW win (rd_T39 l i) w + cw win l w (i + 1) d
theorem incs_rd (n M : Int) (hM : M ≤ 1000000) (d : Nat) : ∀ (v : List Int) (w : Int), (v.length : Int) = n → 0 ≤ w → w + d ≤ n → (∀ j, 0 ≤ j → j < n → 0 ≤ rd v j ∧ rd v j ≤ M) → ∀ j, 0 ≤ j → j < n → rd (incs v w d) j = rd v j + (if w ≤ j ∧ j < w + d then 1 else 0) := by
  have gen : ∀ (d : Nat) (v : List Int) (w : Int), (v.length : Int) = n → 0 ≤ w → w + d ≤ n → (∀ j, w ≤ j → j < n → 0 ≤ rd v j ∧ rd v j ≤ M) → ∀ j, 0 ≤ j → j < n → rd (incs v w d) j = rd v j + (if w ≤ j ∧ j < w + d then 1 else 0) := by
    intro d
    induction d with
    | zero => intro v w hv h0 hd hb j j0 j1; simp only [incs]; rw [if_neg (by omega)]; omega
    | succ d ih2 =>
      intro v w hv h0 hd hb j j0 j1
      have hw := hb w (Int.le_refl _) (by omega)
      have ew : wrap64 (rd v w + 1) = rd v w + 1 := wr (by omega) (by omega)
      have hs : ∀ q, 0 ≤ q → q < n → rd (v.set w.toNat (rd v w + 1)) q = if q = w then rd v w + 1 else rd v q := fun q q0 q1 => rd_set v w q _ h0 q0 (by omega)
      rw [incs, ew, ih2 _ (w + 1) (by rw [List.length_set]; exact hv) (by omega) (by omega) (fun q q0 q1 => by rw [hs q (by omega) q1, if_neg (by omega)]; exact hb q (by omega) q1) j j0 j1, hs j j0 j1]
      by_cases e : j = w
      · subst e; rw [if_pos rfl, if_neg (by omega), if_pos (by omega)]; omega
      · rw [if_neg e]
        by_cases c : w + 1 ≤ j ∧ j < w + 1 + d
        · rw [if_pos c, if_pos (by omega)]
        · rw [if_neg c, if_neg (by omega)]
  intro v w hv h0 hd hb j j0 j1
  exact gen d v w hv h0 hd (fun q q0 q1 => hb q (by omega) q1) j j0 j1
theorem runsW_rd (win cap : Int) (h1 : 1 ≤ win) (hc : cap ≤ 512) (l : List R) (hok : okc l cap) (d : Nat) : ∀ (v : List Int) (i : Int), 0 ≤ i → (l.length : Int) - i = d → (v.length : Int) = (cap - 1) / win + 1 → (∀ j, 0 ≤ j → j < (v.length : Int) → 0 ≤ rd v j ∧ rd v j ≤ i) → ∀ j, 0 ≤ j → j < (v.length : Int) → rd (runsW win l v i d) j = rd v j + cw win l j i d := by
  have hlen := hok.1
  induction d with
  | zero => intro v i _ _ _ _ j _ _; simp [runsW, cw]
  | succ d ih =>
    intro v i h0 hd hv hb j j0 j1
    obtain ⟨a0, a1, a2, _, _, _⟩ := hok.2 i h0 (by omega)
    have hF := win_c h1 hc a0 (show (rd_T39 l i).f0 ≤ cap - 1 by omega)
    have hE := win_c h1 hc (show 0 ≤ (rd_T39 l i).f0 + (rd_T39 l i).f1 - 1 by omega) (show (rd_T39 l i).f0 + (rd_T39 l i).f1 - 1 ≤ cap - 1 by omega)
    have hFE : (rd_T39 l i).f0 / win ≤ ((rd_T39 l i).f0 + (rd_T39 l i).f1 - 1) / win := Int.ediv_le_ediv (by omega) (by omega)
    have hinc := incs_rd (v.length : Int) i (by omega) (((rd_T39 l i).f0 + (rd_T39 l i).f1 - 1) / win - (rd_T39 l i).f0 / win + 1).toNat v ((rd_T39 l i).f0 / win) rfl (by omega) (by omega) hb
    rw [runsW, ih _ (i + 1) (by omega) (by omega) (by rw [incs_length]; exact hv) (fun q q0 q1 => by
      rw [incs_length] at q1
      rw [hinc q q0 q1]
      have := hb q q0 q1
      split <;> omega) j j0 (by rw [incs_length]; exact j1), hinc j j0 j1]
    simp only [cw]
    unfold inW
    by_cases c : (rd_T39 l i).f0 / win ≤ j ∧ j ≤ ((rd_T39 l i).f0 + (rd_T39 l i).f1 - 1) / win
    · rw [if_pos (by omega), if_pos c]; omega
    · rw [if_neg (by omega), if_neg c]; omega
theorem zerosW_rd (cap win : Int) (j : Int) : rd (zerosW cap win) j = 0 := by
  unfold rd zerosW
  rw [List.getD_eq_getElem?_getD, List.getElem?_replicate]
  split <;> rfl
theorem inW_iff (win : Int) (h1 : 1 ≤ win) (x : R) (w : Int) : inW win x w = if x.f0 < (w + 1) * win ∧ x.f0 + x.f1 > w * win then 1 else 0 := by
  unfold inW
  have e1 : x.f0 / win ≤ w ↔ x.f0 < (w + 1) * win := by
    rw [← Int.ediv_lt_iff_lt_mul (by omega)]; omega
  have e2 : w ≤ (x.f0 + x.f1 - 1) / win ↔ x.f0 + x.f1 > w * win := by
    rw [Int.le_ediv_iff_mul_le (by omega)]; omega
  by_cases c : x.f0 / win ≤ w ∧ w ≤ (x.f0 + x.f1 - 1) / win
  · rw [if_pos c, if_pos ⟨e1.1 c.1, e2.1 c.2⟩]
  · rw [if_neg c, if_neg (fun h => c ⟨e1.2 h.1, e2.2 h.2⟩)]
theorem ref_many_in (l : List R) (cap win : Int) (hok : okc l cap) (hc : cap ≤ 512) (h1 : 1 ≤ win) (h2 : win ≤ cap) (w : Int) (w0 : 0 ≤ w) (w1 : w ≤ (cap - 1) / win) (Q : List Int → Prop) (d : Nat) : ∀ (v : List Int) (i : Int), w < (v.length : Int) → 0 ≤ i → (l.length : Int) - i = d → 0 ≤ rd v w → rd v w ≤ i →
    (∃ u, Ev (fun k => ferruleref13_Many.l0 k l win (v.set w.toNat (rd v w + cw win l w i d)) (w + 1)) u ∧ Q u) → ∃ u, Ev (fun k => ferruleref13_Many.l1 k l win v w i) u ∧ Q u := by
  have hlen := hok.1
  have hq := win_c (win := win) h1 hc (show 0 ≤ cap - 1 by omega) (Int.le_refl _)
  have m0 : 0 ≤ w * win := Int.mul_nonneg w0 (by omega)
  have m1 : w * win ≤ cap - 1 := Int.le_trans (Int.mul_le_mul_of_nonneg_right w1 (by omega)) (Int.ediv_mul_le _ (by omega))
  have m2 : (w + 1) * win = w * win + win := by rw [Int.add_mul, Int.one_mul]
  have e1 : wrap64 (w + 1) = w + 1 := wr (by omega) (by omega)
  have e2 : wrap64 ((w + 1) * win) = (w + 1) * win := wr (by omega) (by omega)
  have e3 : wrap64 (w * win) = w * win := wr (by omega) (by omega)
  induction d with
  | zero =>
    intro v i hv h0 hd r0 r1 h
    obtain ⟨u, hE, hu⟩ := h
    refine ⟨u, Ev.step (fun k => ?_) hE, hu⟩
    simp only [ferruleref13_Many.l1, cw]
    rw [if_neg (by omega), e1, Int.add_zero]
    congr 1
    apply rd_eq_of'
    · rw [List.length_set]
    · intro j j0 j1
      rw [rd_set v w j _ w0 j0 hv]
      split
      · rename_i e; subst e; rfl
      · rfl
  | succ d ih =>
    intro v i hv h0 hd r0 r1 h
    have hi : i < (l.length : Int) := by omega
    obtain ⟨a0, a1, a2, _, _, _⟩ := hok.2 i h0 hi
    have hwi := wr1 h0 hi (by omega)
    have e4 : wrap64 ((rd_T39 l i).f0 + (rd_T39 l i).f1) = (rd_T39 l i).f0 + (rd_T39 l i).f1 := wr (by omega) (by omega)
    have e5 : wrap64 (rd v w + 1) = rd v w + 1 := wr (by omega) (by omega)
    have hin := inW_iff win h1 (rd_T39 l i) w
    simp only [cw] at h
    by_cases c1 : (rd_T39 l i).f0 < (w + 1) * win
    · by_cases c2 : (rd_T39 l i).f0 + (rd_T39 l i).f1 > w * win
      · rw [if_pos ⟨c1, c2⟩] at hin
        rw [hin] at h
        obtain ⟨u, hE, hu⟩ := ih (v.set w.toNat (rd v w + 1)) (i + 1) (by rw [List.length_set]; exact hv) (by omega) (by omega) (by rw [rd_set v w w _ w0 w0 hv, if_pos rfl]; omega) (by rw [rd_set v w w _ w0 w0 hv, if_pos rfl]; omega) (by
          rw [rd_set v w w _ w0 w0 hv, if_pos rfl, List.set_set, Int.add_assoc]
          exact h)
        refine ⟨u, Ev.step (fun k => ?_) hE, hu⟩
        simp only [ferruleref13_Many.l1]
        rw [if_pos hi, if_pos h0, e1, e2, if_pos c1, e4, e3, if_pos c2, if_pos w0, if_pos hv, e5, hwi]
      · rw [if_neg (fun h => c2 h.2)] at hin
        rw [hin, Int.zero_add] at h
        obtain ⟨u, hE, hu⟩ := ih v (i + 1) hv (by omega) (by omega) r0 (by omega) h
        refine ⟨u, Ev.step (fun k => ?_) hE, hu⟩
        simp only [ferruleref13_Many.l1]
        rw [if_pos hi, if_pos h0, e1, e2, if_pos c1, e4, e3, if_neg c2, hwi]
    · rw [if_neg (fun h => c1 h.1)] at hin
      rw [hin, Int.zero_add] at h
      obtain ⟨u, hE, hu⟩ := ih v (i + 1) hv (by omega) (by omega) r0 (by omega) h
      refine ⟨u, Ev.step (fun k => ?_) hE, hu⟩
      simp only [ferruleref13_Many.l1]
      rw [if_pos hi, if_pos h0, e1, e2, if_neg c1, hwi]
theorem ref_many_out (l : List R) (cap win : Int) (hok : okc l cap) (hc : cap ≤ 512) (h1 : 1 ≤ win) (h2 : win ≤ cap) (d : Nat) : ∀ (v : List Int) (w : Int), (v.length : Int) = (cap - 1) / win + 1 → 0 ≤ w → (v.length : Int) - w = d → (∀ j, 0 ≤ j → j < (v.length : Int) → rd v j = if j < w then cw win l j 0 l.length else 0) →
    ∃ u, Ev (fun k => ferruleref13_Many.l0 k l win v w) u ∧ (u.length : Int) = (cap - 1) / win + 1 ∧ ∀ j, 0 ≤ j → j < (u.length : Int) → rd u j = cw win l j 0 l.length := by
  have hlen := hok.1
  have hq := win_c (win := win) h1 hc (show 0 ≤ cap - 1 by omega) (Int.le_refl _)
  induction d with
  | zero =>
    intro v w hv w0 hd hall
    refine ⟨v, Ev.step (fun k => ?_) (Ev.now _), hv, fun j j0 j1 => by rw [hall j j0 j1, if_pos (by omega)]⟩
    simp only [ferruleref13_Many.l0]
    rw [if_neg (by omega)]
  | succ d ih =>
    intro v w hv w0 hd hall
    have hw : w < (v.length : Int) := by omega
    have hz : rd v w = 0 := by rw [hall w w0 hw, if_neg (by omega)]
    obtain ⟨u, hE, hu⟩ := ref_many_in l cap win hok hc h1 h2 w w0 (by omega) (fun u => (u.length : Int) = (cap - 1) / win + 1 ∧ ∀ j, 0 ≤ j → j < (u.length : Int) → rd u j = cw win l j 0 l.length) l.length v 0 hw (by omega) (by omega) (by omega) (by omega) (by
      refine ih _ (w + 1) (by rw [List.length_set]; exact hv) (by omega) (by rw [List.length_set]; omega) (fun j j0 j1 => ?_)
      rw [List.length_set] at j1
      rw [rd_set v w j _ w0 j0 hw, hz, Int.zero_add]
      by_cases e : j = w
      · subst e; rw [if_pos rfl, if_pos (by omega)]
      · rw [if_neg e, hall j j0 j1]
        by_cases c : j < w
        · rw [if_pos c, if_pos (by omega)]
        · rw [if_neg c, if_neg (by omega)])
    refine ⟨u, Ev.step (fun k => ?_) hE, hu⟩
    simp only [ferruleref13_Many.l0]
    rw [if_pos hw]
theorem ref_many (l : List R) (cap win : Int) (h : manyOk l cap win) : Ev (fun k => ferruleref13_Many.f k l cap win) (manyV l cap win) := by
  obtain ⟨c0, c1, w0, w1, hl, hf, he⟩ := h
  have hok := okc_of hl hf he
  have hq := win_c (win := win) w0 c1 (show 0 ≤ cap - 1 by omega) (Int.le_refl _)
  have en : wrap64 (Int.tdiv (wrap64 ((wrap64 (cap + win)) - 1)) win) = (cap - 1) / win + 1 := by
    rw [wr (x := cap + win) (by omega) (by omega), wr (x := cap + win - 1) (by omega) (by omega), Int.tdiv_eq_ediv_of_nonneg (by omega), show cap + win - 1 = cap - 1 + 1 * win by omega, Int.add_mul_ediv_right _ _ (by omega), wr (by omega) (by omega)]
  have hzl : ((zerosW cap win).length : Int) = (cap - 1) / win + 1 := by unfold zerosW; rw [List.length_replicate]; omega
  obtain ⟨u, hE, hul, hu⟩ := ref_many_out l cap win hok c1 w0 w1 (zerosW cap win).length (zerosW cap win) 0 hzl (by omega) (by omega) (fun j j0 j1 => by rw [zerosW_rd, if_neg (by omega)])
  have e : u = manyV l cap win := by
    have hml : ((manyV l cap win).length : Int) = (cap - 1) / win + 1 := by unfold manyV; rw [runsW_length]; exact hzl
    apply rd_eq_of'
    · omega
    · intro j j0 j1
      rw [hu j j0 j1]
      unfold manyV
      rw [runsW_rd win cap w0 c1 l hok l.length (zerosW cap win) 0 (by omega) (by omega) hzl (fun q _ _ => by rw [zerosW_rd]; omega) j j0 (by omega), zerosW_rd, Int.zero_add]
  rw [← e]
  refine Ev.congr (fun k => ?_) hE
  rw [ferruleref13_Many.f, if_neg (by omega), en, if_pos (by omega), if_pos (by omega)]
  rfl

/-! ### The richest -/
def bestW (v : List Int) (b j : Int) : Nat → Int
  | 0 => b
  | d + 1 => if rd v j > rd v b then bestW v j (j + 1) d else bestW v b (j + 1) d
def richV (v : List Int) (cap win : Int) : Int × Int × Int × Int := (bestW v 0 0 v.length * win, mn win (cap - bestW v 0 0 v.length * win), rd v (bestW v 0 0 v.length), 0)
theorem best_small {cap win b : Int} (h1 : 1 ≤ win) (hc : 1 ≤ cap) (b0 : 0 ≤ b) (b1 : b ≤ (cap - 1) / win) : 0 ≤ b * win ∧ b * win ≤ cap - 1 :=
  ⟨Int.mul_nonneg b0 (by omega), Int.le_trans (Int.mul_le_mul_of_nonneg_right b1 (by omega)) (Int.ediv_mul_le _ (by omega))⟩
theorem rich_go (cap win : Int) (hc0 : 1 ≤ cap) (hc : cap ≤ 512) (h1 : 1 ≤ win) (h2 : win ≤ cap) (v : List Int) (hv : (v.length : Int) = (cap - 1) / win + 1) (d : Nat) : ∀ (b j : Int), 0 ≤ j → (v.length : Int) - j = d → 0 ≤ b → b < (v.length : Int) →
    Ev (fun k => window_Richest.l0 k cap win v b v (v.length : Int) j) (bestW v b j d * win, mn win (cap - bestW v b j d * win), rd v (bestW v b j d), 0) := by
  have hq := win_c (win := win) h1 hc (show 0 ≤ cap - 1 by omega) (Int.le_refl _)
  induction d with
  | zero =>
    intro b j h0 hd b0 b1
    obtain ⟨m0, m1⟩ := best_small h1 hc0 b0 (show b ≤ (cap - 1) / win by omega)
    refine Ev.step (fun k => ?_) (Ev.now _)
    simp only [window_Richest.l0, bestW]
    rw [if_neg (by omega), if_pos b0, if_pos b1, wr (x := b * win) (by omega) (by omega), wr (x := cap - b * win) (by omega) (by omega)]
  | succ d ih =>
    intro b j h0 hd b0 b1
    have hj : j < (v.length : Int) := by omega
    have hwj := wr1 h0 hj (by omega)
    simp only [bestW]
    by_cases c : rd v j > rd v b
    · rw [if_pos c]
      refine Ev.step (fun k => ?_) (ih j (j + 1) (by omega) (by omega) h0 hj)
      simp only [window_Richest.l0]
      rw [if_pos hj, if_pos h0, if_pos hj, if_pos b0, if_pos b1, if_pos c, hwj]
    · rw [if_neg c]
      refine Ev.step (fun k => ?_) (ih b (j + 1) (by omega) (by omega) b0 b1)
      simp only [window_Richest.l0]
      rw [if_pos hj, if_pos h0, if_pos hj, if_pos b0, if_pos b1, if_neg c, hwj]
theorem manyV_length {l : List R} {cap win : Int} (h : manyOk l cap win) : ((manyV l cap win).length : Int) = (cap - 1) / win + 1 := by
  obtain ⟨c0, c1, w0, w1, _⟩ := h
  have hq := win_c (win := win) w0 c1 (show 0 ≤ cap - 1 by omega) (Int.le_refl _)
  unfold manyV zerosW
  rw [runsW_length, List.length_replicate]
  omega
def richR (l : List R) (cap win : Int) : Int × Int × Int × Int := if manyOk l cap win then richV (manyV l cap win) cap win else (0, 0, 0, 1)
theorem rich_prog (l : List R) (hl : (l.length : Int) ≤ 140737488351232) (cap win : Int) : Ev (fun k => window_Richest.f k l cap win) (richR l cap win) := by
  unfold window_Richest.f
  refine Ev.bind (many_prog l hl cap win) ?_
  unfold manyR richR
  by_cases h : manyOk l cap win
  · rw [if_pos h, if_pos h]
    have hv := manyV_length h
    obtain ⟨c0, c1, w0, w1, _⟩ := h
    have hq := win_c (win := win) w0 c1 (show 0 ≤ cap - 1 by omega) (Int.le_refl _)
    refine Ev.congr (fun k => if_pos rfl) ?_
    exact rich_go cap win c0 c1 w0 w1 _ hv _ 0 0 (by omega) (by omega) (by omega) (by omega)
  · rw [if_neg h, if_neg h]
    exact Ev.congr (f := fun _ => some (0, 0, 0, 1)) (fun k => if_neg (by decide)) (Ev.now _)
/-! ### Holes, by the program -/
/-- the program's pieces, from run i on -/
def holL (l : List R) (b : Int) (out : List Pc) (at_ i : Int) : Nat → List Pc
  | 0 => if at_ < b then out ++ [(⟨at_, b - at_, -1⟩ : Pc)] else out
  | d + 1 =>
    if (rd_T39 l i).f0 ≥ b then (if at_ < b then out ++ [(⟨at_, b - at_, -1⟩ : Pc)] else out)
    else if (rd_T39 l i).f1 ≥ b - (rd_T39 l i).f0 then (if (rd_T39 l i).f0 > at_ then out ++ [(⟨at_, (rd_T39 l i).f0 - at_, -1⟩ : Pc)] else out)
    else holL l b (if (rd_T39 l i).f0 > at_ then out ++ [(⟨at_, (rd_T39 l i).f0 - at_, -1⟩ : Pc)] else out) (if (rd_T39 l i).f0 + (rd_T39 l i).f1 > at_ then (rd_T39 l i).f0 + (rd_T39 l i).f1 else at_) (i + 1) d
theorem hol_prog (l : List R) (hok : okc l 512) (b : Int) (hb0 : 0 ≤ b) (hb : b ≤ 512) (d : Nat) : ∀ (out : List Pc) (at_ i : Int), 0 ≤ i → (l.length : Int) - i = d → 0 ≤ at_ → at_ ≤ 512 → (out.length : Int) ≤ i →
    Ev (fun k => window_Holes.l1 k out at_ b l (l.length : Int) i) (holL l b out at_ i d, 0) := by
  have hlen := hok.1
  induction d with
  | zero =>
    intro out at_ i h0 hd a0 a1 ho
    refine Ev.step (f := fun _ => some _) (fun k => ?_) (Ev.now _)
    simp only [window_Holes.l1, holL]
    rw [if_neg (by omega)]
    by_cases c : at_ < b
    · rw [if_pos c, if_pos c, if_pos (by omega), wr (by omega) (by omega)]
    · rw [if_neg c, if_neg c]
  | succ d ih =>
    intro out at_ i h0 hd a0 a1 ho
    have hi : i < (l.length : Int) := by omega
    have hwi := wr1 h0 hi (by omega)
    obtain ⟨x0, x1, x2, _, _, _⟩ := hok.2 i h0 hi
    have eb : wrap64 (b - (rd_T39 l i).f0) = b - (rd_T39 l i).f0 := wr (by omega) (by omega)
    have ee : wrap64 ((rd_T39 l i).f0 + (rd_T39 l i).f1) = (rd_T39 l i).f0 + (rd_T39 l i).f1 := wr (by omega) (by omega)
    have em : mx at_ ((rd_T39 l i).f0 + (rd_T39 l i).f1) = (if (rd_T39 l i).f0 + (rd_T39 l i).f1 > at_ then (rd_T39 l i).f0 + (rd_T39 l i).f1 else at_) := by unfold mx; first | rfl | (split <;> rfl)
    have e1 : wrap64 (b - at_) = b - at_ := wr (by omega) (by omega)
    have e2 : wrap64 ((rd_T39 l i).f0 - at_) = (rd_T39 l i).f0 - at_ := wr (by omega) (by omega)
    have hat : 0 ≤ (if (rd_T39 l i).f0 + (rd_T39 l i).f1 > at_ then (rd_T39 l i).f0 + (rd_T39 l i).f1 else at_) ∧ (if (rd_T39 l i).f0 + (rd_T39 l i).f1 > at_ then (rd_T39 l i).f0 + (rd_T39 l i).f1 else at_) ≤ 512 := by split <;> omega
    simp only [holL]
    by_cases c1 : (rd_T39 l i).f0 ≥ b
    · rw [if_pos c1]
      refine Ev.step (f := fun _ => some _) (fun k => ?_) (Ev.now _)
      simp only [window_Holes.l1]
      rw [if_pos hi, if_pos h0, if_pos hi, if_pos c1]
      by_cases c : at_ < b
      · rw [if_pos c, if_pos c, if_pos (by omega), e1]
      · rw [if_neg c, if_neg c]
    · rw [if_neg c1]
      by_cases c3 : (rd_T39 l i).f1 ≥ b - (rd_T39 l i).f0
      · rw [if_pos c3]
        refine Ev.step (f := fun _ => some _) (fun k => ?_) (Ev.now _)
        simp only [window_Holes.l1]
        rw [if_pos hi, if_pos h0, if_pos hi, if_neg c1, eb]
        by_cases c2 : (rd_T39 l i).f0 > at_
        · rw [if_pos c2, if_pos c2, if_pos (by omega), Option.bind_some, if_pos c3, e2]
        · rw [if_neg c2, if_neg c2, if_pos c3]
      · rw [if_neg c3]
        by_cases c2 : (rd_T39 l i).f0 > at_
        · rw [if_pos c2]
          refine Ev.step (fun k => ?_) (ih _ _ (i + 1) (by omega) (by omega) hat.1 hat.2 (by rw [List.length_append, List.length_singleton]; omega))
          simp only [window_Holes.l1]
          rw [if_pos hi, if_pos h0, if_pos hi, if_neg c1, eb, if_pos c2, if_pos (by omega), Option.bind_some, if_neg c3, e2, ee, em, hwi]
        · rw [if_neg c2]
          refine Ev.step (fun k => ?_) (ih _ _ (i + 1) (by omega) (by omega) hat.1 hat.2 (by omega))
          simp only [window_Holes.l1]
          rw [if_pos hi, if_pos h0, if_pos hi, if_neg c1, eb, if_neg c2, if_neg c3, ee, em, hwi]
/-- what Holes takes -/
def fits5 (l : List R) : Prop := (l.length : Int) ≤ 512 ∧ form l = true ∧ allB (endC l 512) 0 l.length = true
instance (l : List R) : Decidable (fits5 l) := by unfold fits5; exact inferInstance
def holOk (l : List R) (a n : Int) : Prop := fits5 l ∧ 1 ≤ n ∧ n ≤ 512 ∧ 0 ≤ a ∧ a ≤ 512 - n
instance (l : List R) (a n : Int) : Decidable (holOk l a n) := by unfold holOk; exact inferInstance
def holR (l : List R) (a n : Int) : List Pc × Int := if holOk l a n then (holL l (a + n) [] a 0 l.length, 0) else ([], 1)
theorem hol_check (l : List R) (hl : (l.length : Int) ≤ 512) (hf : form l = true) (a n : Int) (r : List Pc × Int) (d : Nat) : ∀ i : Int, 0 ≤ i → (l.length : Int) - i = d →
    (allB (endC l 512) i d = true → Ev (fun k => window_Holes.l1 k [] a (wrap64 (a + n)) l (l.length : Int) 0) r) → (allB (endC l 512) i d = false → r = ([], 1)) → Ev (fun k => window_Holes.l0 k l a n l (l.length : Int) i) r := by
  induction d with
  | zero =>
    intro i h0 hd h1 _
    refine Ev.step (fun k => ?_) (h1 rfl)
    simp only [window_Holes.l0]
    rw [if_neg (by omega)]
  | succ d ih =>
    intro i h0 hd h1 h2
    have hi : i < (l.length : Int) := by omega
    obtain ⟨a0, a1, a2, a3, a4, a5⟩ := good_of hf h0 hi
    have ew : wrap64 (512 - (rd_T39 l i).f1) = 512 - (rd_T39 l i).f1 := wr (by omega) (by omega)
    by_cases c : (rd_T39 l i).f0 + (rd_T39 l i).f1 ≤ 512
    · have e : allB (endC l 512) i (d + 1) = allB (endC l 512) (i + 1) d := by simp only [allB]; rw [show endC l 512 i = true from decide_eq_true c]; rfl
      rw [e] at h1 h2
      refine Ev.step (fun k => ?_) (ih (i + 1) (by omega) (by omega) h1 h2)
      simp only [window_Holes.l0]
      rw [if_pos hi, if_pos h0, if_pos hi, if_neg (by omega), ew, if_neg (by omega), wr1 h0 hi (by omega)]
    · have e : allB (endC l 512) i (d + 1) = false := by simp only [allB]; rw [show endC l 512 i = false from decide_eq_false c]; rfl
      rw [h2 e]
      refine Ev.step (f := fun _ => some ([], 1)) (fun k => ?_) (Ev.now _)
      simp only [window_Holes.l0]
      rw [if_pos hi, if_pos h0, if_pos hi, ew]
      by_cases c2 : (rd_T39 l i).f1 > 512
      · rw [if_pos c2]
      · rw [if_neg c2, if_pos (by omega)]
theorem holes_prog (l : List R) (hl : (l.length : Int) ≤ 140737488351232) (a n : Int) : Ev (fun k => window_Holes.f k l a n) (holR l a n) := by
  have out : ∀ (h : ¬ holOk l a n), Ev (fun k => window_Holes.j0 k l a n true) (holR l a n) := by
    intro h
    unfold holR
    rw [if_neg h]
    exact Ev.step (fun k => by simp only [window_Holes.j0, if_true]) (Ev.now _)
  by_cases c1 : (l.length : Int) > 512
  · exact Ev.congr (fun k => by rw [window_Holes.f, if_pos c1]) (out (fun h => by have := h.1.1; omega))
  refine Ev.congr (f := fun k => (span_Form.f k l).bind fun t => if t = true then (if n < 1 then (window_Holes.j0 k l a n true) else (if n > 512 then (window_Holes.j0 k l a n true) else (if a < 0 then (window_Holes.j0 k l a n true) else (window_Holes.j0 k l a n (decide (a > (wrap64 (512 - n)))))))) else window_Holes.j0 k l a n true) (fun k => by rw [window_Holes.f, if_neg c1]) ?_
  refine Ev.bind (form_ev l hl) ?_
  cases hf : form l with
  | false => exact Ev.congr (fun k => if_neg (by decide)) (out (fun h => by have := h.1.2.1; rw [hf] at this; cases this))
  | true =>
    refine Ev.congr (fun k => if_pos rfl) ?_
    by_cases c2 : n < 1
    · exact Ev.congr (fun k => if_pos c2) (out (fun h => by have := h.2.1; omega))
    by_cases c3 : n > 512
    · exact Ev.congr (fun k => by rw [if_neg c2, if_pos c3]) (out (fun h => by have := h.2.2.1; omega))
    by_cases c4 : a < 0
    · exact Ev.congr (fun k => by rw [if_neg c2, if_neg c3, if_pos c4]) (out (fun h => by have := h.2.2.2.1; omega))
    have ew : wrap64 (512 - n) = 512 - n := wr (by omega) (by omega)
    refine Ev.congr (fun k => by rw [if_neg c2, if_neg c3, if_neg c4, ew]) ?_
    by_cases c5 : a > 512 - n
    · rw [decide_eq_true c5]; exact out (fun h => by have := h.2.2.2.2; omega)
    rw [decide_eq_false c5]
    refine Ev.step (f := fun k => window_Holes.l0 k l a n l (l.length : Int) 0) (fun k => by simp only [window_Holes.j0, Bool.false_eq_true, if_false]) ?_
    refine hol_check l (by omega) hf a n _ l.length 0 (by omega) (by omega) (fun ha => ?_) (fun ha => ?_)
    · rw [wr (x := a + n) (by omega) (by omega)]
      unfold holR
      rw [if_pos ⟨⟨by omega, hf, ha⟩, by omega, by omega, by omega, by omega⟩]
      exact hol_prog l (okc_of (by omega) hf ha) (a + n) (by omega) (by omega) l.length [] a 0 (by omega) (by omega) (by omega) (by omega) (by simp)
    · unfold holR
      rw [if_neg (fun h => by have := h.1.2.2; rw [ha] at this; cases this)]
/-! ### Holes, by the reference -/
def inQ (x : R) (s : Int) : Prop := x.f0 ≤ s ∧ s < x.f0 + x.f1
theorem okc_mono {l : List R} {n : Int} (h : okc l n) (i : Int) (h0 : 0 ≤ i) (d : Nat) : i + 1 + d < (l.length : Int) → (rd_T39 l i).f0 + (rd_T39 l i).f1 ≤ (rd_T39 l (i + 1 + d)).f0 := by
  induction d with
  | zero =>
    intro hi
    have := ((h.2 (i + 1) (by omega) (by simpa using hi)).2.2.2.2.2 (by omega)).1
    rw [show i + 1 - 1 = i by omega] at this
    simpa using this
  | succ d ih =>
    intro hi
    have h1 := ih (by omega)
    obtain ⟨_, b, _, _, _, _⟩ := h.2 (i + 1 + d) (by omega) (by omega)
    have := ((h.2 (i + 1 + ((d + 1 : Nat) : Int)) (by omega) (by omega)).2.2.2.2.2 (by omega)).1
    rw [show i + 1 + ((d + 1 : Nat) : Int) - 1 = i + 1 + d by omega] at this
    omega
theorem okc_lt {l : List R} {n : Int} (h : okc l n) {i j : Int} (h0 : 0 ≤ i) (hij : i < j) (hj : j < (l.length : Int)) : (rd_T39 l i).f0 + (rd_T39 l i).f1 ≤ (rd_T39 l j).f0 := by
  have := okc_mono h i h0 (j - i - 1).toNat (by omega)
  rwa [show i + 1 + ((j - i - 1).toNat : Int) = j by omega] at this
/-- the table of the first i runs -/
def tabI (l : List R) (t : List Int) (i : Int) : Prop := t.length = 512 ∧ ∀ s, 0 ≤ s → s < 512 → -1 ≤ rd t s ∧ rd t s ≤ 1073742336 ∧ (rd t s ≥ 0 ↔ ∃ j, 0 ≤ j ∧ j < i ∧ inQ (rd_T39 l j) s)
theorem put_loop (x : R) (h0 : 0 ≤ x.f0) (h1 : x.f0 + x.f1 ≤ 512) (h2 : 0 ≤ x.f2) (h3 : x.f2 ≤ 1073741824) (d : Nat) : ∀ (u : List Int) (i : Int), u.length = 512 → 0 ≤ i → x.f1 - i = d →
    ∃ v, Ev (fun k => ferruleref9_Put.l0 k x.f0 x.f1 x.f2 u i) v ∧ v.length = 512 ∧ ∀ s, 0 ≤ s → s < 512 → rd v s = if x.f0 + i ≤ s ∧ s < x.f0 + x.f1 then x.f2 + (s - x.f0) else rd u s := by
  induction d with
  | zero =>
    intro u i hu i0 hd
    refine ⟨u, Ev.step (fun k => by simp only [ferruleref9_Put.l0]; rw [if_neg (by omega)]) (Ev.now _), hu, fun s s0 s1 => by rw [if_neg (by omega)]⟩
  | succ d ih =>
    intro u i hu i0 hd
    have e : wrap64 (x.f0 + i) = x.f0 + i := wr (by omega) (by omega)
    have e2 : wrap64 (x.f2 + i) = x.f2 + i := wr (by omega) (by omega)
    obtain ⟨v, hE, hv, hr⟩ := ih ((u.set (x.f0 + i).toNat (-1)).set (x.f0 + i).toNat (x.f2 + i)) (i + 1) (by rw [List.length_set, List.length_set]; exact hu) (by omega) (by omega)
    refine ⟨v, Ev.step (fun k => ?_) hE, hv, fun s s0 s1 => ?_⟩
    · simp only [ferruleref9_Put.l0]
      rw [if_pos (by omega), e, if_pos (by omega), if_pos (by omega), Option.bind_some, if_pos (by omega), e2, wr1 i0 (show i < 513 by omega) (by omega)]
    · rw [hr s s0 s1, List.set_set, rd_set u (x.f0 + i) s _ (by omega) s0 (by omega)]
      by_cases c : s = x.f0 + i
      · rw [if_neg (by omega), if_pos c, if_pos (by omega)]; omega
      · rw [if_neg c]
        by_cases c2 : x.f0 + (i + 1) ≤ s ∧ s < x.f0 + x.f1
        · rw [if_pos c2, if_pos (by omega)]
        · rw [if_neg c2, if_neg (by omega)]
theorem table_loop (l : List R) (hok : okc l 512) (d : Nat) : ∀ (t : List Int) (i : Int), 0 ≤ i → (l.length : Int) - i = d → tabI l t i → ∃ u, Ev (fun k => ferruleref9_Table.l0 k l t i) u ∧ tabI l u l.length := by
  have hlen := hok.1
  induction d with
  | zero =>
    intro t i h0 hd ht
    obtain rfl : i = (l.length : Int) := by omega
    exact ⟨t, Ev.step (fun k => by simp only [ferruleref9_Table.l0]; rw [if_neg (by omega)]) (Ev.now _), ht⟩
  | succ d ih =>
    intro t i h0 hd ht
    have hi : i < (l.length : Int) := by omega
    obtain ⟨x0, x1, x2, x3, x4, _⟩ := hok.2 i h0 hi
    obtain ⟨v, hE, hv, hr⟩ := put_loop (rd_T39 l i) x0 x2 x3 x4 (rd_T39 l i).f1.toNat t 0 ht.1 (by omega) (by omega)
    have hP : Ev (fun k => ferruleref9_Put.f k t (rd_T39 l i).f0 (rd_T39 l i).f1 (rd_T39 l i).f2) v := by
      refine Ev.congr (fun k => ?_) hE
      simp only [ferruleref9_Put.f, Option.bind_some, List.length_nil, List.nil_append, Nat.zero_add]
      rw [if_pos (by have := ht.1; omega)]
    obtain ⟨u, hE2, hu⟩ := ih v (i + 1) (by omega) (by omega) ⟨hv, fun s s0 s1 => by
      obtain ⟨q0, q1, q2⟩ := ht.2 s s0 s1
      rw [hr s s0 s1, Int.add_zero]
      by_cases c : (rd_T39 l i).f0 ≤ s ∧ s < (rd_T39 l i).f0 + (rd_T39 l i).f1
      · rw [if_pos c]
        exact ⟨by omega, by omega, fun _ => ⟨i, h0, by omega, c⟩, fun _ => by omega⟩
      · rw [if_neg c]
        refine ⟨q0, q1, fun h => ?_, fun ⟨j, j0, j1, j2⟩ => q2.2 ⟨j, j0, ?_, j2⟩⟩
        · obtain ⟨j, j0, j1, j2⟩ := q2.1 h
          exact ⟨j, j0, by omega, j2⟩
        · by_cases e : j = i
          · subst e; exact absurd j2 c
          · omega⟩
    refine ⟨u, Ev.step (f := fun k => (ferruleref9_Put.f k t (rd_T39 l i).f0 (rd_T39 l i).f1 (rd_T39 l i).f2).bind fun t199 => (ferruleref9_Table.l0 k l t199 (i + 1))) (fun k => ?_) (Ev.bind hP hE2), hu⟩
    simp only [ferruleref9_Table.l0]
    rw [if_pos hi, if_pos h0, wr1 h0 hi (by omega)]
theorem table_ev (l : List R) (hok : okc l 512) : ∃ t, Ev (fun k => ferruleref9_Table.f k l 512) t ∧ tabI l t l.length := by
  obtain ⟨t, hE, ht, hall⟩ := new_ev
  obtain ⟨u, hE2, hu⟩ := table_loop l hok l.length t 0 (by omega) (by omega) ⟨ht, fun s s0 s1 => by rw [hall s s0 s1]; exact ⟨by omega, by omega, fun h => by omega, fun ⟨j, j0, j1, _⟩ => by omega⟩⟩
  exact ⟨u, Ev.congr (fun k => by rw [ferruleref9_Table.f]) (Ev.bind hE hE2), hu⟩
/-! Range, stretch by stretch -/
def neg (p : Pc) : Bool := decide (p.f2 < 0)
theorem rdP_last (o : List Pc) (x : Pc) : rd_T38 (o ++ [x]) (((o ++ [x]).length : Int) - 1) = x := by
  have e : (((o ++ [x]).length : Int) - 1).toNat = o.length := by rw [List.length_append, List.length_singleton]; omega
  unfold rd_T38
  rw [e]
  simp [List.getD]
theorem setP_last (o : List Pc) (x y : Pc) : (o ++ [x]).set ((((o ++ [x]).length : Int) - 1)).toNat y = o ++ [y] := by
  have e : (((o ++ [x]).length : Int) - 1).toNat = o.length := by rw [List.length_append, List.length_singleton]; omega
  rw [e, List.set_append_right _ _ (Nat.le_refl _), Nat.sub_self]
  rfl
section
variable (t : List Int) (ht : t.length = 512) (hb : ∀ s, 0 ≤ s → s < 512 → -1 ≤ rd t s ∧ rd t s ≤ 1073742336) (a n : Int) (ha : 0 ≤ a) (hn : 1 ≤ n) (han : a + n ≤ 512)
include ht hb ha hn han
/-- one sector more of the last piece -/
theorem range_more (o : List Pc) (y : Pc) (s : Int) (r : List Pc) (hlen : ((o ++ [y]).length : Int) ≤ 1000000000) (h0 : a < s) (h1 : s < a + n) (hy0 : 0 ≤ y.f1) (hy1 : y.f1 ≤ 512) (hc : (rd t s < 0 ∧ rd t (s - 1) < 0) ∨ (rd t s ≥ 0 ∧ rd t (s - 1) ≥ 0 ∧ rd t (s - 1) + 1 = rd t s))
    (h : Ev (fun k => ferruleref9_Range.l0 k t a n (o ++ [(⟨y.f0, y.f1 + 1, y.f2⟩ : Pc)]) (s + 1)) r) : Ev (fun k => ferruleref9_Range.l0 k t a n (o ++ [y]) s) r := by
  obtain ⟨b0, b1⟩ := hb s (by omega) (by omega)
  obtain ⟨b2, b3⟩ := hb (s - 1) (by omega) (by omega)
  have ean : wrap64 (a + n) = a + n := wr (by omega) (by omega)
  have es : wrap64 (s - 1) = s - 1 := wr (by omega) (by omega)
  have es2 : wrap64 (rd t (s - 1) + 1) = rd t (s - 1) + 1 := wr (by omega) (by omega)
  have es3 : wrap64 (s + 1) = s + 1 := wr (by omega) (by omega)
  have ey : wrap64 (y.f1 + 1) = y.f1 + 1 := wr (by omega) (by omega)
  have el : wrap64 (((o ++ [y]).length : Int) - 1) = ((o ++ [y]).length : Int) - 1 := wr (by omega) (by omega)
  have hl1 : 1 ≤ ((o ++ [y]).length : Int) := by rw [List.length_append, List.length_singleton]; omega
  refine Ev.step (f := fun k => ferruleref9_Range.j1 k t a n (o ++ [y]) s true) (fun k => ?_) (Ev.step (fun k => ?_) h)
  · simp only [ferruleref9_Range.l0]
    rw [if_pos (by omega), if_pos (by omega), if_pos (by omega), if_pos (by omega)]
    rcases hc with ⟨c1, c2⟩ | ⟨c1, c2, c3⟩
    · rw [if_pos c1, es, if_pos (by omega), if_pos (by omega), if_pos c2]
    · rw [if_neg (by omega), if_pos c1, es, if_pos (by omega), if_pos (by omega), if_pos c2, es2, c3]
      simp
  · simp only [ferruleref9_Range.j1, if_true]
    rw [el, if_pos (by omega), if_pos (by omega), rdP_last, setP_last, ey, es3]
/-- a piece of its own -/
theorem range_new (o : List Pc) (s : Int) (r : List Pc) (hlen : (o.length : Int) ≤ 1000000000) (h0 : a ≤ s) (h1 : s < a + n) (hc : s = a ∨ ¬ ((rd t s < 0 ∧ rd t (s - 1) < 0) ∨ (rd t s ≥ 0 ∧ rd t (s - 1) ≥ 0 ∧ rd t (s - 1) + 1 = rd t s)))
    (h : Ev (fun k => ferruleref9_Range.l0 k t a n (o ++ [(⟨s, 1, if rd t s ≥ 0 then rd t s else -1⟩ : Pc)]) (s + 1)) r) : Ev (fun k => ferruleref9_Range.l0 k t a n o s) r := by
  obtain ⟨b0, b1⟩ := hb s (by omega) (by omega)
  have ean : wrap64 (a + n) = a + n := wr (by omega) (by omega)
  have es3 : wrap64 (s + 1) = s + 1 := wr (by omega) (by omega)
  refine Ev.step (f := fun k => ferruleref9_Range.j1 k t a n o s false) (fun k => ?_) (Ev.step (fun k => ?_) h)
  · simp only [ferruleref9_Range.l0]
    rw [if_pos (by omega)]
    rcases hc with hc | hc
    · rw [if_neg (by omega)]
    · by_cases c0 : s > a
      · obtain ⟨b2, b3⟩ := hb (s - 1) (by omega) (by omega)
        have es : wrap64 (s - 1) = s - 1 := wr (by omega) (by omega)
        have es2 : wrap64 (rd t (s - 1) + 1) = rd t (s - 1) + 1 := wr (by omega) (by omega)
        rw [if_pos c0, if_pos (by omega), if_pos (by omega), es]
        by_cases c1 : rd t s < 0
        · rw [if_pos c1, if_pos (by omega), if_pos (by omega), if_neg (by omega), if_neg (by omega)]
        · rw [if_neg c1, if_pos (by omega), if_pos (by omega), if_pos (by omega)]
          by_cases c2 : rd t (s - 1) ≥ 0
          · rw [if_pos c2, es2]
            have : (rd t (s - 1) + 1 == rd t s) = false := by simp; omega
            rw [this]
          · rw [if_neg c2]
      · rw [if_neg c0]
  · simp only [ferruleref9_Range.j1, Bool.false_eq_true, if_false]
    rw [if_pos (by omega), if_pos (by omega)]
    by_cases c : rd t s ≥ 0
    · rw [if_pos c, if_pos c, if_pos (by omega), es3]
    · rw [if_neg c, if_neg c, if_pos (by omega), es3]
/-- a hole grows -/
theorem range_grow (o : List Pc) (r : List Pc) (c : Int) (hlen : (o.length : Int) ≤ 100000) (hc0 : a ≤ c) (m : Nat) : ∀ (q : Int), 1 ≤ q → c + q + m ≤ a + n → (∀ s, c ≤ s → s < c + q + m → rd t s < 0) →
    Ev (fun k => ferruleref9_Range.l0 k t a n (o ++ [(⟨c, q + m, -1⟩ : Pc)]) (c + q + m)) r → Ev (fun k => ferruleref9_Range.l0 k t a n (o ++ [(⟨c, q, -1⟩ : Pc)]) (c + q)) r := by
  induction m with
  | zero => intro q hq h1 hneg h; simpa using h
  | succ m ih =>
    intro q hq h1 hneg h
    refine range_more t ht hb a n ha hn han o ⟨c, q, -1⟩ (c + q) r (by rw [List.length_append, List.length_singleton]; omega) (by omega) (by omega) (by show 0 ≤ q; omega) (by show q ≤ 512; omega) (Or.inl ⟨hneg _ (by omega) (by omega), hneg _ (by omega) (by omega)⟩) ?_
    have := ih (q + 1) (by omega) (by omega) (fun s s0 s1 => hneg s s0 (by omega)) (by
      rw [show q + 1 + (m : Int) = q + ((m + 1 : Nat) : Int) by omega, show c + (q + 1) + (m : Int) = c + q + ((m + 1 : Nat) : Int) by omega]
      exact h)
    rw [show c + (q + 1) = c + q + 1 by omega] at this
    exact this
theorem range_gap (o : List Pc) (r : List Pc) (c e : Int) (hlen : (o.length : Int) ≤ 100000) (hc0 : a ≤ c) (hce : c < e) (hea : e ≤ a + n) (hneg : ∀ s, c ≤ s → s < e → rd t s < 0) (hprev : c = a ∨ rd t (c - 1) ≥ 0)
    (h : Ev (fun k => ferruleref9_Range.l0 k t a n (o ++ [(⟨c, e - c, -1⟩ : Pc)]) e) r) : Ev (fun k => ferruleref9_Range.l0 k t a n o c) r := by
  have h0 := hneg c (Int.le_refl _) hce
  refine range_new t ht hb a n ha hn han o c r (by omega) hc0 (by omega) ?_ ?_
  · rcases hprev with h1 | h1
    · exact Or.inl h1
    · exact Or.inr (by omega)
  · rw [if_neg (by omega)]
    have := range_grow t ht hb a n ha hn han o r c hlen hc0 (e - c - 1).toNat 1 (by omega) (by omega) (fun s s0 s1 => hneg s s0 (by omega)) (by
      rw [show (1 : Int) + ((e - c - 1).toNat : Int) = e - c by omega, show c + 1 + ((e - c - 1).toNat : Int) = e by omega]
      exact h)
    exact this
/-- what is known of the pieces so far: the last one reaches to s, and is a hole just where sector s - 1 is none's -/
def wellP (x7 : List Pc) (s : Int) : Prop := (x7.length : Int) ≤ s - a ∧ (a < s → ∃ o y, x7 = o ++ [y] ∧ 1 ≤ y.f1 ∧ y.f1 ≤ s - a ∧ (rd t (s - 1) ≥ 0 → y.f2 ≥ 0))
theorem range_run (m : Nat) : ∀ (x7 : List Pc) (s : Int), a ≤ s → s + m ≤ a + n → (∀ q, s ≤ q → q < s + m → rd t q ≥ 0) → wellP t a x7 s →
    ∃ x8, wellP t a x8 (s + m) ∧ x8.filter neg = x7.filter neg ∧ ∀ r, Ev (fun k => ferruleref9_Range.l0 k t a n x8 (s + m)) r → Ev (fun k => ferruleref9_Range.l0 k t a n x7 s) r := by
  induction m with
  | zero => intro x7 s h0 h1 hpos hw; exact ⟨x7, by simpa using hw, rfl, fun r h => by simpa using h⟩
  | succ m ih =>
    intro x7 s h0 h1 hpos hw
    have hp := hpos s (Int.le_refl _) (by omega)
    by_cases c : a < s ∧ rd t (s - 1) ≥ 0 ∧ rd t (s - 1) + 1 = rd t s
    · obtain ⟨c1, c2, c3⟩ := c
      obtain ⟨o, y, rfl, y1, y2, y3⟩ := hw.2 c1
      have hy := y3 c2
      obtain ⟨x8, w8, f8, e8⟩ := ih (o ++ [(⟨y.f0, y.f1 + 1, y.f2⟩ : Pc)]) (s + 1) (by omega) (by omega) (fun q q0 q1 => hpos q (by omega) (by omega)) ⟨by have := hw.1; rw [List.length_append, List.length_singleton] at this ⊢; omega, fun _ => ⟨o, _, rfl, by show 1 ≤ y.f1 + 1; omega, by show y.f1 + 1 ≤ s + 1 - a; omega, fun _ => hy⟩⟩
      have es : s + 1 + (m : Int) = s + ((m + 1 : Nat) : Int) := by omega
      rw [es] at w8 e8
      refine ⟨x8, w8, ?_, fun r h => range_more t ht hb a n ha hn han o y s r (by have := hw.1; omega) c1 (by omega) (by omega) (by omega) (Or.inr ⟨hp, c2, c3⟩) (e8 r h)⟩
      rw [f8, List.filter_append, List.filter_append]
      have e1 : neg y = false := decide_eq_false (by omega)
      have e2 : neg (⟨y.f0, y.f1 + 1, y.f2⟩ : Pc) = false := decide_eq_false (by show ¬ y.f2 < 0; omega)
      simp [e1, e2]
    · obtain ⟨x8, w8, f8, e8⟩ := ih (x7 ++ [(⟨s, 1, rd t s⟩ : Pc)]) (s + 1) (by omega) (by omega) (fun q q0 q1 => hpos q (by omega) (by omega)) ⟨by have := hw.1; rw [List.length_append, List.length_singleton]; omega, fun _ => ⟨x7, _, rfl, by show (1 : Int) ≤ 1; omega, by show (1 : Int) ≤ s + 1 - a; omega, fun _ => hp⟩⟩
      have es : s + 1 + (m : Int) = s + ((m + 1 : Nat) : Int) := by omega
      rw [es] at w8 e8
      refine ⟨x8, w8, ?_, fun r h => range_new t ht hb a n ha hn han x7 s r (by have := hw.1; omega) h0 (by omega) ?_ ?_⟩
      · rw [f8, List.filter_append]
        have e2 : neg (⟨s, 1, rd t s⟩ : Pc) = false := decide_eq_false (by show ¬ rd t s < 0; omega)
        simp [e2]
      · by_cases g : s = a
        · exact Or.inl g
        · exact Or.inr (by omega)
      · rw [if_pos hp]; exact e8 r h
end
section
variable (t : List Int) (ht : t.length = 512) (hb : ∀ s, 0 ≤ s → s < 512 → -1 ≤ rd t s ∧ rd t s ≤ 1073742336) (a n : Int) (ha : 0 ≤ a) (hn : 1 ≤ n) (han : a + n ≤ 512)
include ht hb a n ha hn han
theorem range_end (x7 : List Pc) : Ev (fun k => ferruleref9_Range.l0 k t a n x7 (a + n)) x7 := by
  have _h1 := ht
  have _h2 := hb
  refine Ev.step (f := fun _ => some x7) (fun k => ?_) (Ev.now _)
  simp only [ferruleref9_Range.l0]
  rw [wr (x := a + n) (by omega) (by omega), if_neg (by omega)]
theorem well_gap {x7 : List Pc} {c e : Int} (hw : wellP t a x7 c) (hac : a ≤ c) (hce : c < e) (hneg : rd t (e - 1) < 0) : wellP t a (x7 ++ [(⟨c, e - c, -1⟩ : Pc)]) e := by
  have _h1 := ht
  have _h2 := hb
  have _h3 := ha
  have _h4 := hn
  have _h5 := han
  exact ⟨by have := hw.1; rw [List.length_append, List.length_singleton]; omega, fun _ => ⟨x7, _, rfl, by show 1 ≤ e - c; omega, by show e - c ≤ e - a; omega, fun h => by omega⟩⟩
theorem range_main (l : List R) (hok : okc l 512) (hT : tabI l t l.length) (d : Nat) : ∀ (x7 : List Pc) (at_ i : Int), 0 ≤ i → (l.length : Int) - i = d → a ≤ at_ → at_ < a + n → (at_ = a ∨ rd t (at_ - 1) ≥ 0) → wellP t a x7 at_ → (∀ j, 0 ≤ j → j < i → (rd_T39 l j).f0 + (rd_T39 l j).f1 ≤ at_) →
    ∃ u, Ev (fun k => ferruleref9_Range.l0 k t a n x7 at_) u ∧ u.filter neg = holL l (a + n) (x7.filter neg) at_ i d ∧ (u.length : Int) ≤ n := by
  have hlen := hok.1
  have gapneg : ∀ (i at_ e : Int), 0 ≤ i → 0 ≤ at_ → e ≤ 512 → (∀ j, 0 ≤ j → j < i → (rd_T39 l j).f0 + (rd_T39 l j).f1 ≤ at_) → (∀ j, i ≤ j → j < (l.length : Int) → e ≤ (rd_T39 l j).f0) → ∀ s, at_ ≤ s → s < e → rd t s < 0 := by
    intro i at_ e i0 a0 e1 h1 h2 s s0 s1
    rcases Int.lt_or_le (rd t s) 0 with h | h
    · exact h
    · obtain ⟨j, j0, j1, j2⟩ := (hT.2 s (by omega) (by omega)).2.2.1 h
      obtain ⟨j2, j3⟩ := j2
      by_cases c : j < i
      · have := h1 j j0 c; omega
      · have := h2 j (by omega) j1; omega
  have fneg : ∀ c e : Int, neg (⟨c, e, -1⟩ : Pc) = true := fun c e => decide_eq_true (by show (-1 : Int) < 0; omega)
  induction d with
  | zero =>
    intro x7 at_ i h0 hd h1 h2 hprev hw hdone
    have hg := gapneg i at_ (a + n) h0 (by omega) han hdone (fun j j0 j1 => by omega)
    refine ⟨x7 ++ [(⟨at_, a + n - at_, -1⟩ : Pc)], range_gap t ht hb a n ha hn han x7 _ at_ (a + n) (by have := hw.1; omega) h1 h2 (Int.le_refl _) hg hprev (range_end t ht hb a n ha hn han _), ?_, by have := hw.1; rw [List.length_append, List.length_singleton]; omega⟩
    rw [List.filter_append, holL, if_pos h2]
    simp [fneg]
  | succ d ih =>
    intro x7 at_ i h0 hd h1 h2 hprev hw hdone
    have hi : i < (l.length : Int) := by omega
    obtain ⟨x0, x1, x2, _, _, _⟩ := hok.2 i h0 hi
    have later : ∀ j, i + 1 ≤ j → j < (l.length : Int) → (rd_T39 l i).f0 + (rd_T39 l i).f1 ≤ (rd_T39 l j).f0 := fun j j0 j1 => okc_lt hok h0 (by omega) j1
    have runpos : ∀ s, (rd_T39 l i).f0 ≤ s → s < (rd_T39 l i).f0 + (rd_T39 l i).f1 → rd t s ≥ 0 := fun s s0 s1 => (hT.2 s (by omega) (by omega)).2.2.2 ⟨i, h0, hi, s0, s1⟩
    have hdone' : ∀ m : Int, (rd_T39 l i).f0 + (rd_T39 l i).f1 ≤ m → at_ ≤ m → ∀ j, 0 ≤ j → j < i + 1 → (rd_T39 l j).f0 + (rd_T39 l j).f1 ≤ m := fun m m0 m1 j j0 j1 => by
      by_cases e : j = i
      · subst e; exact m0
      · have := hdone j j0 (by omega); omega
    simp only [holL]
    by_cases c1 : (rd_T39 l i).f0 ≥ a + n
    · rw [if_pos c1, if_pos h2]
      have hg := gapneg i at_ (a + n) h0 (by omega) han hdone (fun j j0 j1 => by
        by_cases e : j = i
        · subst e; omega
        · have := later j (by omega) j1; omega)
      refine ⟨x7 ++ [(⟨at_, a + n - at_, -1⟩ : Pc)], range_gap t ht hb a n ha hn han x7 _ at_ (a + n) (by have := hw.1; omega) h1 h2 (Int.le_refl _) hg hprev (range_end t ht hb a n ha hn han _), ?_, by have := hw.1; rw [List.length_append, List.length_singleton]; omega⟩
      rw [List.filter_append]
      simp [fneg]
    · rw [if_neg c1]
      by_cases c2 : (rd_T39 l i).f0 > at_
      · -- a gap, then the run
        have hg := gapneg i at_ (rd_T39 l i).f0 h0 (by omega) (by omega) hdone (fun j j0 j1 => by
          by_cases e : j = i
          · subst e; omega
          · have := later j (by omega) j1; omega)
        have hw2 := well_gap t ht hb a n ha hn han hw h1 c2 (hg _ (by omega) (by omega))
        have ef : (x7 ++ [(⟨at_, (rd_T39 l i).f0 - at_, -1⟩ : Pc)]).filter neg = x7.filter neg ++ [(⟨at_, (rd_T39 l i).f0 - at_, -1⟩ : Pc)] := by rw [List.filter_append]; simp [fneg]
        rw [if_pos c2]
        by_cases c3 : (rd_T39 l i).f1 ≥ a + n - (rd_T39 l i).f0
        · rw [if_pos c3]
          obtain ⟨x8, w8, f8, e8⟩ := range_run t ht hb a n ha hn han (a + n - (rd_T39 l i).f0).toNat _ (rd_T39 l i).f0 (by omega) (by omega) (fun q q0 q1 => runpos q q0 (by omega)) hw2
          rw [show (rd_T39 l i).f0 + ((a + n - (rd_T39 l i).f0).toNat : Int) = a + n by omega] at e8
          exact ⟨x8, range_gap t ht hb a n ha hn han x7 _ at_ _ (by have := hw.1; omega) h1 c2 (by omega) hg hprev (e8 _ (range_end t ht hb a n ha hn han _)), by rw [f8, ef], by have := w8.1; omega⟩
        · rw [if_neg c3, if_pos (by omega)]
          obtain ⟨x8, w8, f8, e8⟩ := range_run t ht hb a n ha hn han (rd_T39 l i).f1.toNat _ (rd_T39 l i).f0 (by omega) (by omega) (fun q q0 q1 => runpos q q0 (by omega)) hw2
          rw [show (rd_T39 l i).f0 + ((rd_T39 l i).f1.toNat : Int) = (rd_T39 l i).f0 + (rd_T39 l i).f1 by omega] at e8 w8
          obtain ⟨u, hE, hu, hul⟩ := ih x8 ((rd_T39 l i).f0 + (rd_T39 l i).f1) (i + 1) (by omega) (by omega) (by omega) (by omega) (Or.inr (runpos _ (by omega) (by omega))) w8 (hdone' _ (Int.le_refl _) (by omega))
          exact ⟨u, range_gap t ht hb a n ha hn han x7 _ at_ _ (by have := hw.1; omega) h1 c2 (by omega) hg hprev (e8 _ hE), by rw [hu, f8, ef], hul⟩
      · rw [if_neg c2]
        by_cases c3 : (rd_T39 l i).f1 ≥ a + n - (rd_T39 l i).f0
        · rw [if_pos c3]
          obtain ⟨x8, w8, f8, e8⟩ := range_run t ht hb a n ha hn han (a + n - at_).toNat x7 at_ h1 (by omega) (fun q q0 q1 => runpos q (by omega) (by omega)) hw
          rw [show at_ + ((a + n - at_).toNat : Int) = a + n by omega] at e8
          exact ⟨x8, e8 _ (range_end t ht hb a n ha hn han _), f8, by have := w8.1; omega⟩
        · rw [if_neg c3]
          by_cases c4 : (rd_T39 l i).f0 + (rd_T39 l i).f1 > at_
          · rw [if_pos c4]
            obtain ⟨x8, w8, f8, e8⟩ := range_run t ht hb a n ha hn han ((rd_T39 l i).f0 + (rd_T39 l i).f1 - at_).toNat x7 at_ h1 (by omega) (fun q q0 q1 => runpos q (by omega) (by omega)) hw
            rw [show at_ + (((rd_T39 l i).f0 + (rd_T39 l i).f1 - at_).toNat : Int) = (rd_T39 l i).f0 + (rd_T39 l i).f1 by omega] at e8 w8
            obtain ⟨u, hE, hu, hul⟩ := ih x8 ((rd_T39 l i).f0 + (rd_T39 l i).f1) (i + 1) (by omega) (by omega) (by omega) (by omega) (Or.inr (runpos _ (by omega) (by omega))) w8 (hdone' _ (Int.le_refl _) (by omega))
            exact ⟨u, e8 _ hE, by rw [hu, f8], hul⟩
          · rw [if_neg c4]
            exact ih x7 at_ (i + 1) (by omega) (by omega) h1 h2 hprev hw (hdone' _ (by omega) (Int.le_refl _))
end
theorem holes_filter (x8 : List Pc) (hl : (x8.length : Int) ≤ 100000) (d : Nat) : ∀ (x9 : List Pc) (i : Int), 0 ≤ i → (x8.length : Int) - i = d → (x9.length : Int) ≤ i → Ev (fun k => ferruleref13_Holes.l0 k x8 x9 i) (x9 ++ (x8.drop i.toNat).filter neg) := by
  induction d with
  | zero =>
    intro x9 i h0 hd _
    rw [List.drop_of_length_le (by omega)]
    refine Ev.step (fun k => ?_) (Ev.now _)
    simp only [ferruleref13_Holes.l0]
    rw [if_neg (by omega)]
    simp
  | succ d ih =>
    intro x9 i h0 hd h9
    have hi : i < (x8.length : Int) := by omega
    have hin : i.toNat < x8.length := by omega
    have er : rd_T38 x8 i = x8[i.toNat] := by simp [rd_T38, hin]
    rw [List.drop_eq_getElem_cons hin, show i.toNat + 1 = (i + 1).toNat by omega, ← er]
    by_cases c : (rd_T38 x8 i).f2 < 0
    · have e : neg (rd_T38 x8 i) = true := decide_eq_true c
      rw [List.filter_cons_of_pos (by simpa using e)]
      have h := ih (x9 ++ [rd_T38 x8 i]) (i + 1) (by omega) (by omega) (by rw [List.length_append, List.length_singleton]; omega)
      rw [List.append_assoc, List.singleton_append] at h
      refine Ev.step (fun k => ?_) h
      simp only [ferruleref13_Holes.l0]
      rw [if_pos hi, if_pos h0, if_pos c, if_pos (by omega), wr1 h0 hi (by omega)]
    · have e : neg (rd_T38 x8 i) = false := decide_eq_false c
      rw [List.filter_cons_of_neg (by simp [e])]
      refine Ev.step (fun k => ?_) (ih x9 (i + 1) (by omega) (by omega) (by omega))
      simp only [ferruleref13_Holes.l0]
      rw [if_pos hi, if_pos h0, if_neg c, wr1 h0 hi (by omega)]
theorem range_f (t : List Int) (a n : Int) (u : List Pc) (h : Ev (fun k => ferruleref9_Range.l0 k t a n [] a) u) : Ev (fun k => ferruleref9_Range.f k t a n) u := by
  unfold ferruleref9_Range.f
  exact Ev.congr (fun k => by rw [if_pos (by omega)]; rfl) h
theorem holes_f (u r : List Pc) (h : Ev (fun k => ferruleref13_Holes.l0 k u [] 0) r) : Ev (fun k => if (0 : Int) ≤ 11728124029610 then ferruleref13_Holes.l0 k u (List.replicate 0 z38) 0 else none) r :=
  Ev.congr (fun k => by rw [if_pos (by omega)]; rfl) h
theorem ref_holes (l : List R) (a n : Int) (h : holOk l a n) : Ev (fun k => ferruleref13_Holes.f k l a n) (holL l (a + n) [] a 0 l.length) := by
  obtain ⟨⟨hl, hf, he⟩, n0, n1, a0, a1⟩ := h
  have hok := okc_of hl hf he
  obtain ⟨t, hE, hT⟩ := table_ev l hok
  obtain ⟨u, hE2, hu, hul⟩ := range_main t hT.1 (fun s s0 s1 => ⟨(hT.2 s s0 s1).1, (hT.2 s s0 s1).2.1⟩) a n a0 n0 (by omega) l hok hT l.length [] a 0 (by omega) (by omega) (by omega) (by omega) (Or.inl rfl) ⟨by simp, fun h => by omega⟩ (fun j j0 j1 => by omega)
  have h3 := holes_filter u (by omega) u.length [] 0 (by omega) (by omega) (by simp)
  have e0 : u.drop (0 : Int).toNat = u := rfl
  rw [e0, List.nil_append, hu] at h3
  unfold ferruleref13_Holes.f
  exact Ev.bind hE (Ev.bind (range_f t a n u hE2) (holes_f u _ h3))
/-! ### the reference's Form, Ends, Fits, Right -/
theorem inside_eq (a b : Int) : ferruleref9_inside.f a b = some (decide (a ≥ b ∧ a ≤ 1073741824)) := by
  unfold ferruleref9_inside.f
  by_cases h : a ≥ b
  · rw [if_pos h]; simp [h]
  · rw [if_neg h]; simp [h]
theorem form_ref (l : List R) (hl : (l.length : Int) ≤ 140737488351232) (d : Nat) : ∀ (i : Int), 0 ≤ i → (l.length : Int) - i = d → (i = 0 ∨ good1 (rd_T39 l (i - 1))) →
    Ev (fun k => ferruleref9_Form.l0 k l i) (allB (formI l) i d) := by
  induction d with
  | zero =>
    intro i h0 hd _
    refine Ev.step (fun k => ?_) (Ev.now _)
    simp only [ferruleref9_Form.l0, allB]
    rw [if_neg (by omega)]
  | succ d ih =>
    intro i h0 hd hp
    have hi : i < (l.length : Int) := by omega
    have hw := wr1 h0 hi hl
    have hw1 : wrap64 (i - 1) = i - 1 := wr (by omega) (by omega)
    generalize hx : rd_T39 l i = x
    have step1 : Ev (fun k => ferruleref9_Form.j1 k l i (!decide (good1 x))) (allB (formI l) i (d + 1)) := by
      by_cases hg : good1 x
      · simp only [hg, decide_true, Bool.not_true]
        have nx := ih (i + 1) (by omega) (by omega) (Or.inr (by rw [show i + 1 - 1 = i by omega, hx]; exact hg))
        by_cases hi0 : i = 0
        · refine Ev.step (f := fun k => ferruleref9_Form.l0 k l (i + 1)) (fun k => ?_) ?_
          · simp only [ferruleref9_Form.j1]
            rw [if_neg (by decide), if_pos hi0, hw]
          · have hfi : formI l i = true := by
              unfold formI
              rw [hx, decide_eq_true hg, decide_eq_true hi0]; rfl
            simp only [allB, hfi, Bool.true_and]
            exact nx
        · have hgp : good1 (rd_T39 l (i - 1)) := hp.resolve_left hi0
          generalize hpx : rd_T39 l (i - 1) = p at hgp
          have hgx := hg
          obtain ⟨a0, a1, a2, a3, a4, a5⟩ := hg
          obtain ⟨b0, b1, b2, b3, b4, b5⟩ := hgp
          have e1 : wrap64 (p.f0 + p.f1) = p.f0 + p.f1 := wr (by omega) (by omega)
          have e2 : wrap64 (p.f2 + p.f1) = p.f2 + p.f1 := wr (by omega) (by omega)
          have hfi : formI l i = decide (adj p x) := by
            simp [formI, hx, hpx, hi0, hgx]
          by_cases c1 : p.f0 + p.f1 > x.f0
          · refine Ev.step (f := fun _ => some false) (fun k => ?_) (by
              have : ¬ adj p x := fun h => by have := h.1; omega
              simp only [allB, hfi, this, decide_false, Bool.false_and]; exact Ev.now _)
            simp only [ferruleref9_Form.j1]
            rw [if_neg (by decide), if_neg hi0, hw1, if_pos (by omega), if_pos (by omega), if_pos h0, if_pos hi, hpx, hx, e1, if_pos c1]
          · by_cases c2 : p.f0 + p.f1 = x.f0
            · by_cases c3 : p.f2 + p.f1 = x.f2
              · refine Ev.step (f := fun _ => some false) (fun k => ?_) (by
                  have : ¬ adj p x := fun h => h.2 ⟨by omega, by omega⟩
                  simp only [allB, hfi, this, decide_false, Bool.false_and]; exact Ev.now _)
                simp only [ferruleref9_Form.j1]
                rw [if_neg (by decide), if_neg hi0, hw1, if_pos (by omega), if_pos (by omega), if_pos h0, if_pos hi, hpx, hx, e1, if_neg c1, if_pos c2, e2, if_pos c3]
              · refine Ev.step (f := fun k => ferruleref9_Form.l0 k l (i + 1)) (fun k => ?_) (by
                  have : adj p x := ⟨by omega, fun h => by omega⟩
                  simp only [allB, hfi, this, decide_true, Bool.true_and]; exact nx)
                simp only [ferruleref9_Form.j1]
                rw [if_neg (by decide), if_neg hi0, hw1, if_pos (by omega), if_pos (by omega), if_pos h0, if_pos hi, hpx, hx, e1, if_neg c1, if_pos c2, e2, if_neg c3, hw]
            · refine Ev.step (f := fun k => ferruleref9_Form.l0 k l (i + 1)) (fun k => ?_) (by
                have : adj p x := ⟨by omega, fun h => by omega⟩
                simp only [allB, hfi, this, decide_true, Bool.true_and]; exact nx)
              simp only [ferruleref9_Form.j1]
              rw [if_neg (by decide), if_neg hi0, hw1, if_pos (by omega), if_pos (by omega), if_pos h0, if_pos hi, hpx, hx, e1, if_neg c1, if_neg c2, hw]
      · simp only [hg, decide_false, Bool.not_false]
        refine Ev.step (f := fun _ => some false) (fun k => by simp only [ferruleref9_Form.j1, if_true]) (by
          simp only [allB, formI, hx, hg, decide_false, Bool.false_and]; exact Ev.now _)
    refine Ev.step (f := fun k => ferruleref9_Form.j1 k l i (!decide (good1 x))) (fun k => ?_) step1
    simp only [ferruleref9_Form.l0]
    rw [if_pos hi, if_pos h0, hx, inside_eq, inside_eq, inside_eq]
    simp only [Option.bind_some]
    by_cases c1 : x.f0 ≥ 0 ∧ x.f0 ≤ 1073741824
    · by_cases c2 : x.f2 ≥ 0 ∧ x.f2 ≤ 1073741824
      · by_cases c3 : x.f1 ≥ 1 ∧ x.f1 ≤ 1073741824
        · have : good1 x := ⟨c1.1, c1.2, c2.1, c2.2, c3.1, c3.2⟩
          simp [c1, c2, c3, this]
        · have : ¬ good1 x := fun h => c3 ⟨h.2.2.2.2.1, h.2.2.2.2.2⟩
          simp only [decide_eq_true c1, decide_eq_true c2, decide_eq_false c3, decide_eq_false this, if_true]
      · have : ¬ good1 x := fun h => c2 ⟨h.2.2.1, h.2.2.2.1⟩
        simp only [decide_eq_true c1, decide_eq_false c2, decide_eq_false this, if_true, Bool.false_eq_true, if_false, Bool.not_false]
    · have : ¬ good1 x := fun h => c1 ⟨h.1, h.2.1⟩
      simp only [decide_eq_false c1, decide_eq_false this, Bool.false_eq_true, if_false, Bool.not_false]
theorem form_ref_ev (l : List R) (hl : (l.length : Int) ≤ 140737488351232) : Ev (fun k => ferruleref9_Form.f k l) (form l) :=
  Ev.congr (fun k => by rw [ferruleref9_Form.f]) (form_ref l hl l.length 0 (by omega) (by omega) (Or.inl rfl))
theorem ends_mono (l : List R) (hf : form l = true) (d : Nat) : ∀ (i : Int), 0 ≤ i → i + d < (l.length : Int) → (rd_T39 l i).f0 + (rd_T39 l i).f1 ≤ (rd_T39 l (i + d)).f0 + (rd_T39 l (i + d)).f1 := by
  induction d with
  | zero => intro i _ _; simp
  | succ d ih =>
    intro i h0 h1
    have h2 := ih i h0 (by omega)
    obtain ⟨g, a⟩ := form_at hf (show 0 ≤ i + ((d + 1 : Nat) : Int) by omega) h1
    have e : i + ((d + 1 : Nat) : Int) - 1 = i + (d : Int) := by omega
    rw [e] at a
    have := (a.resolve_left (by omega)).1
    have := g.2.2.2.2.1
    omega
theorem ends_ref (l : List R) (hl : (l.length : Int) ≤ 140737488351232) (hf : form l = true) (c : Int) : ferruleref9_Ends.f l c = some (allB (endC l c) 0 l.length) := by
  unfold ferruleref9_Ends.f
  by_cases h0 : (l.length : Int) = 0
  · rw [if_pos h0]
    have : l.length = 0 := by omega
    rw [this]; rfl
  · have hw : wrap64 ((l.length : Int) - 1) = (l.length : Int) - 1 := wr (by omega) (by omega)
    rw [if_neg h0, hw, if_pos (by omega), if_pos (by omega)]
    obtain ⟨a0, a1, a2, a3, a4, a5⟩ := (form_at hf (show 0 ≤ (l.length : Int) - 1 by omega) (by omega)).1
    have e2 : wrap64 ((rd_T39 l ((l.length : Int) - 1)).f0 + (rd_T39 l ((l.length : Int) - 1)).f1) = (rd_T39 l ((l.length : Int) - 1)).f0 + (rd_T39 l ((l.length : Int) - 1)).f1 := wr (by omega) (by omega)
    rw [e2]
    congr 1
    by_cases hc : (rd_T39 l ((l.length : Int) - 1)).f0 + (rd_T39 l ((l.length : Int) - 1)).f1 ≤ c
    · rw [decide_eq_true hc]
      refine (allB_of fun j h1 h2 => decide_eq_true ?_).symm
      have hm := ends_mono l hf (l.length - 1 - j.toNat) j h1 (by omega)
      have ej : j + ((l.length - 1 - j.toNat : Nat) : Int) = (l.length : Int) - 1 := by omega
      rw [ej] at hm
      omega
    · rw [decide_eq_false hc]
      cases ha : allB (endC l c) 0 l.length with
      | false => rfl
      | true =>
        have := of_decide_eq_true (allB_true ha ((l.length : Int) - 1) (by omega) (by omega))
        omega
theorem fits_ref (l : List R) (hl : (l.length : Int) ≤ 140737488351232) : Ev (fun k => ferruleref13_Fits.f k l) (decide (fits5 l)) := by
  by_cases h : (l.length : Int) ≤ 512
  · refine Ev.congr (f := fun k => (ferruleref9_Form.f k l).bind fun t => if t = true then ((ferruleref9_Ends.f l 512).bind fun t195 => (some t195)) else some false) (fun k => by rw [ferruleref13_Fits.f, if_pos h]) ?_
    refine Ev.bind (form_ref_ev l hl) ?_
    cases hf : form l with
    | false =>
      rw [decide_eq_false (fun h : fits5 l => by have := h.2.1; rw [hf] at this; cases this)]
      exact Ev.congr (fun k => by rw [if_neg (by decide)]) (Ev.now _)
    | true =>
      refine Ev.congr (f := fun _ => some (allB (endC l 512) 0 l.length)) (fun k => by rw [if_pos rfl, ends_ref l hl hf]; rfl) ?_
      have e : decide (fits5 l) = allB (endC l 512) 0 l.length := by
        cases ha : allB (endC l 512) 0 l.length with
        | true => exact decide_eq_true ⟨h, hf, ha⟩
        | false => exact decide_eq_false (fun h => by have := h.2.2; rw [ha] at this; cases this)
      rw [e]; exact Ev.now _
  · rw [decide_eq_false (fun h2 : fits5 l => h h2.1)]
    exact Ev.congr (fun k => by rw [ferruleref13_Fits.f, if_neg h]) (Ev.now _)
theorem right_ref (a n : Int) : ferruleref9_Right.f 512 a n = some (decide (1 ≤ n ∧ n ≤ 512 ∧ 0 ≤ a ∧ a ≤ 512 - n)) := by
  unfold ferruleref9_Right.f
  by_cases c1 : n ≥ 1
  · rw [if_pos c1]
    by_cases c2 : n ≤ 512
    · rw [if_pos c2]
      by_cases c3 : a ≥ 0
      · rw [if_pos c3, wr (x := 512 - n) (by omega) (by omega)]
        congr 1
        by_cases c4 : a ≤ 512 - n
        · rw [decide_eq_true c4, decide_eq_true (by omega)]
        · rw [decide_eq_false c4, decide_eq_false (by omega)]
      · rw [if_neg c3, decide_eq_false (by omega)]
    · rw [if_neg c2, decide_eq_false (by omega)]
  · rw [if_neg c1, decide_eq_false (by omega)]
theorem same_loop (a : List R) (hl : (a.length : Int) ≤ 140737488351232) (d : Nat) : ∀ (i : Int), 0 ≤ i → (a.length : Int) - i = d → Ev (fun k => ferruleref9_Same.l0 k a a i) true := by
  induction d with
  | zero => intro i h0 hd; exact Ev.step (fun k => by simp only [ferruleref9_Same.l0]; rw [if_neg (by omega)]) (Ev.now _)
  | succ d ih =>
    intro i h0 hd
    have hi : i < (a.length : Int) := by omega
    refine Ev.step (fun k => ?_) (ih (i + 1) (by omega) (by omega))
    simp only [ferruleref9_Same.l0]
    rw [if_pos hi, if_pos h0, if_pos hi, wr1 h0 hi hl]
    simp
theorem same_ev (a : List R) (hl : (a.length : Int) ≤ 140737488351232) : Ev (fun k => ferruleref9_Same.f k a a) true :=
  Ev.congr (fun k => by rw [ferruleref9_Same.f, if_pos rfl]) (same_loop a hl a.length 0 (by omega) (by omega))
theorem pieces_loop (a : List Pc) (hl : (a.length : Int) ≤ 140737488351232) (d : Nat) : ∀ (i : Int), 0 ≤ i → (a.length : Int) - i = d → Ev (fun k => ferruleref9_Pieces.l0 k a a i) true := by
  induction d with
  | zero => intro i h0 hd; exact Ev.step (fun k => by simp only [ferruleref9_Pieces.l0]; rw [if_neg (by omega)]) (Ev.now _)
  | succ d ih =>
    intro i h0 hd
    have hi : i < (a.length : Int) := by omega
    refine Ev.step (fun k => ?_) (ih (i + 1) (by omega) (by omega))
    simp only [ferruleref9_Pieces.l0]
    rw [if_pos hi, if_pos h0, if_pos hi, wr1 h0 hi hl]
    simp
theorem pieces_ev (a : List Pc) (hl : (a.length : Int) ≤ 140737488351232) : Ev (fun k => ferruleref9_Pieces.f k a a) true :=
  Ev.congr (fun k => by rw [ferruleref9_Pieces.f, if_pos rfl]) (pieces_loop a hl a.length 0 (by omega) (by omega))
theorem holL_length (l : List R) (b : Int) (d : Nat) : ∀ (out : List Pc) (at_ i : Int), ((holL l b out at_ i d).length : Int) ≤ out.length + d + 1 := by
  have ap : ∀ (out : List Pc) (x : Pc), ((out ++ [x]).length : Int) = out.length + 1 := fun out x => by rw [List.length_append, List.length_singleton]; omega
  induction d with
  | zero =>
    intro out at_ i
    simp only [holL]
    split
    · rw [ap]; omega
    · omega
  | succ d ih =>
    intro out at_ i
    simp only [holL]
    split
    · split
      · rw [ap]; omega
      · omega
    · split
      · split
        · rw [ap]; omega
        · omega
      · refine Int.le_trans (ih _ _ _) ?_
        split
        · rw [ap]; omega
        · omega
/-! ### the law's loop -/
theorem tells_loop (cap win : Int) (hc0 : 1 ≤ cap) (hc : cap ≤ 512) (h1 : 1 ≤ win) (h2 : win ≤ cap) (v : List Int) (hv : (v.length : Int) = (cap - 1) / win + 1) (B : Int) (d : Nat) : ∀ (b j : Int), 0 ≤ j → (v.length : Int) - j = d → 0 ≤ b → b < (v.length : Int) → bestW v b j d = B →
    Ev (fun k => ferrulelaw15_tells.l0 k cap win v (B * win) (mn win (cap - B * win)) (rd v B) v b j) true := by
  have hq := win_c (win := win) h1 hc (show 0 ≤ cap - 1 by omega) (Int.le_refl _)
  induction d with
  | zero =>
    intro b j h0 hd b0 b1 hB
    simp only [bestW] at hB
    subst hB
    obtain ⟨m0, m1⟩ := best_small h1 hc0 b0 (show b ≤ (cap - 1) / win by omega)
    refine Ev.step (f := fun _ => some true) (fun k => ?_) (Ev.now _)
    simp only [ferrulelaw15_tells.l0]
    rw [if_neg (by omega), wr (x := b * win) (by omega) (by omega), wr (x := cap - b * win) (by omega) (by omega)]
    unfold mn
    by_cases c : cap - b * win < win
    · rw [if_pos c, if_pos rfl, if_pos c, if_pos rfl, if_pos b0, if_pos b1]; simp
    · rw [if_neg c, if_pos rfl, if_neg c, if_pos rfl, if_pos b0, if_pos b1]; simp
  | succ d ih =>
    intro b j h0 hd b0 b1 hB
    have hj : j < (v.length : Int) := by omega
    have hwj := wr1 h0 hj (by omega)
    simp only [bestW] at hB
    by_cases c : rd v j > rd v b
    · rw [if_pos c] at hB
      refine Ev.step (fun k => ?_) (ih j (j + 1) (by omega) (by omega) h0 hj hB)
      simp only [ferrulelaw15_tells.l0]
      rw [if_pos hj, if_pos h0, if_pos hj, if_pos trivial, if_pos b0, if_pos b1, if_pos c, hwj]
    · rw [if_neg c] at hB
      refine Ev.step (fun k => ?_) (ih b (j + 1) (by omega) (by omega) b0 b1 hB)
      simp only [ferrulelaw15_tells.l0]
      rw [if_pos hj, if_pos h0, if_pos hj, if_pos trivial, if_pos b0, if_pos b1, if_neg c, hwj]
theorem tells_j2 (l : List R) (hl : (l.length : Int) ≤ 140737488351232) (cap win : Int) : Ev (fun k => ferrulelaw15_tells.j2 k l cap win (manyR l cap win).1 (manyR l cap win).2 (richR l cap win).1 (richR l cap win).2.1 (richR l cap win).2.2.1 (richR l cap win).2.2.2 (!decide (manyOk l cap win))) true := by
  unfold manyR richR
  by_cases h : manyOk l cap win
  · rw [if_pos h, if_pos h, decide_eq_true h]
    have hv := manyV_length h
    refine Ev.step (f := fun k => (ferruleref13_Many.f k l cap win).bind fun t281 => ferrulelaw15_tells.j3 k cap win (manyV l cap win) (richV (manyV l cap win) cap win).1 (richV (manyV l cap win) cap win).2.1 (richV (manyV l cap win) cap win).2.2.1 t281 (((manyV l cap win).length : Int) != (t281.length : Int))) (fun k => ?_) ?_
    · simp only [ferrulelaw15_tells.j2, Bool.not_true, Bool.false_eq_true, if_false, richV, if_true]
    · refine Ev.bind (ref_many l cap win h) ?_
      refine Ev.step (f := fun k => ferrulelaw15_tells.l0 k cap win (manyV l cap win) (richV (manyV l cap win) cap win).1 (richV (manyV l cap win) cap win).2.1 (richV (manyV l cap win) cap win).2.2.1 (manyV l cap win) 0 0) (fun k => ?_) ?_
      · simp only [ferrulelaw15_tells.j3, bne_self_eq_false, Bool.false_eq_true, if_false]
      · obtain ⟨c0, c1, w0, w1, _⟩ := h
        have hq := win_c (win := win) w0 c1 (show 0 ≤ cap - 1 by omega) (Int.le_refl _)
        exact tells_loop cap win c0 c1 w0 w1 _ hv _ _ 0 0 (by omega) (by omega) (by omega) (by omega) rfl
  · rw [if_neg h, if_neg h, decide_eq_false h]
    refine Ev.step (f := fun _ => some true) (fun k => ?_) (Ev.now _)
    simp [ferrulelaw15_tells.j2]
theorem many_fits {l : List R} {cap win : Int} (h : manyOk l cap win) : fits5 l := by
  obtain ⟨c0, c1, w0, w1, hl, hf, he⟩ := h
  exact ⟨hl, hf, allB_of fun j h1 h2 => decide_eq_true (by have := of_decide_eq_true (allB_true he j h1 h2); omega)⟩
theorem tells_j1 (l : List R) (hl : (l.length : Int) ≤ 140737488351232) (cap win : Int) : Ev (fun k => ferrulelaw15_tells.j1 k l cap win (manyR l cap win).1 (manyR l cap win).2 (richR l cap win).1 (richR l cap win).2.1 (richR l cap win).2.2.1 (richR l cap win).2.2.2 (decide (fits5 l))) true := by
  have key := tells_j2 l hl cap win
  by_cases hF : fits5 l
  · rw [decide_eq_true hF]
    by_cases c1 : cap < 1
    · rw [decide_eq_false (fun h : manyOk l cap win => by have := h.1; omega)] at key
      exact Ev.step (fun k => by simp only [ferrulelaw15_tells.j1]; rw [if_pos trivial, if_pos c1]; rfl) key
    by_cases c2 : cap > 512
    · rw [decide_eq_false (fun h : manyOk l cap win => by have := h.2.1; omega)] at key
      exact Ev.step (fun k => by simp only [ferrulelaw15_tells.j1]; rw [if_pos trivial, if_neg c1, if_pos c2]; rfl) key
    by_cases c3 : win < 1
    · rw [decide_eq_false (fun h : manyOk l cap win => by have := h.2.2.1; omega)] at key
      exact Ev.step (fun k => by simp only [ferrulelaw15_tells.j1]; rw [if_pos trivial, if_neg c1, if_neg c2, if_pos c3]; rfl) key
    by_cases c4 : win > cap
    · rw [decide_eq_false (fun h : manyOk l cap win => by have := h.2.2.2.1; omega)] at key
      exact Ev.step (fun k => by simp only [ferrulelaw15_tells.j1]; rw [if_pos trivial, if_neg c1, if_neg c2, if_neg c3, if_pos c4]; rfl) key
    refine Ev.step (fun k => ?_) key
    simp only [ferrulelaw15_tells.j1]
    rw [if_pos trivial, if_neg c1, if_neg c2, if_neg c3, if_neg c4, ends_ref l hl hF.2.1]
    have e : decide (manyOk l cap win) = allB (endC l cap) 0 l.length := by
      cases ha : allB (endC l cap) 0 l.length with
      | true => exact decide_eq_true ⟨by omega, by omega, by omega, by omega, hF.1, hF.2.1, ha⟩
      | false => exact decide_eq_false (fun h => by have := h.2.2.2.2.2.2; rw [ha] at this; cases this)
    rw [e]; rfl
  · rw [decide_eq_false hF]
    rw [decide_eq_false (fun h : manyOk l cap win => hF (many_fits h))] at key
    exact Ev.step (fun k => by simp only [ferrulelaw15_tells.j1]; rw [if_neg (by decide)]; rfl) key
theorem tells_j0 (l : List R) (hl : (l.length : Int) ≤ 140737488351232) (cap win a n : Int) : Ev (fun k => ferrulelaw15_tells.j0 k l cap win a n (manyR l cap win).1 (manyR l cap win).2 (richR l cap win).1 (richR l cap win).2.1 (richR l cap win).2.2.1 (richR l cap win).2.2.2 (holR l a n).1 (holR l a n).2 (decide (fits5 l)) (!decide (holOk l a n))) true := by
  have key := tells_j1 l hl cap win
  unfold holR
  by_cases h : holOk l a n
  · rw [if_pos h, decide_eq_true h]
    have hlen := holL_length l (a + n) l.length [] a 0
    refine Ev.step (f := fun k => (ferruleref13_Holes.f k l a n).bind fun t276 => ((ferruleref9_Pieces.f k (holL l (a + n) [] a 0 l.length) t276).bind fun t279 => (if t279 = true then (ferrulelaw15_tells.j1 k l cap win (manyR l cap win).1 (manyR l cap win).2 (richR l cap win).1 (richR l cap win).2.1 (richR l cap win).2.2.1 (richR l cap win).2.2.2 (decide (fits5 l))) else (some false)))) (fun k => ?_) ?_
    · simp only [ferrulelaw15_tells.j0, Bool.not_true, Bool.false_eq_true, if_false, if_true]
    · refine Ev.bind (ref_holes l a n h) (Ev.bind (pieces_ev (holL l (a + n) [] a 0 l.length) (by rw [List.length_nil] at hlen; have := h.1.1; omega)) ?_)
      exact Ev.congr (fun k => by rw [if_pos rfl]) key
  · rw [if_neg h, decide_eq_false h]
    refine Ev.step (fun k => ?_) key
    simp only [ferrulelaw15_tells.j0, Bool.not_false, if_true, List.length_nil]
    rfl
theorem tells_ev (l : List R) (hl : (l.length : Int) * 24 ≤ 140737488351232) (cap win a n : Int) : Ev (fun k => ferrulelaw15_tells.f k l cap win a n) true := by
  have hl2 : (l.length : Int) ≤ 140737488351232 := by omega
  have et : (l ++ [(⟨9, 0, 0⟩ : R)]).take ((l.length : Int) : Int).toNat = l := by rw [Int.toNat_natCast, List.take_left]
  have key := tells_j0 l hl2 cap win a n
  refine Ev.congr (f := fun k => (window_Many.f k l cap win).bind fun bt261 => ((window_Richest.f k l cap win).bind fun bt265 => ((window_Holes.f k l a n).bind fun bt269 => ((ferruleref9_Same.f k l l).bind fun t273 => (if t273 = true then ((ferruleref13_Fits.f k l).bind fun t274 => (if t274 = true then ((ferruleref9_Right.f 512 a n).bind fun t275 => (ferrulelaw15_tells.j0 k l cap win a n bt261.1 bt261.2 bt265.1 bt265.2.1 bt265.2.2.1 bt265.2.2.2 bt269.1 bt269.2 t274 (!t275))) else (ferrulelaw15_tells.j0 k l cap win a n bt261.1 bt261.2 bt265.1 bt265.2.1 bt265.2.2.1 bt265.2.2.2 bt269.1 bt269.2 t274 true))) else (some false)))))) (fun k => ?_) ?_
  · unfold ferrulelaw15_tells.f
    simp only [Option.bind_some, List.nil_append]
    rw [if_pos (by simp; omega), if_pos (by omega), if_pos (by omega), if_pos (by simp; omega), et]
  refine Ev.bind (many_prog l hl2 cap win) (Ev.bind (rich_prog l hl2 cap win) (Ev.bind (holes_prog l hl2 a n) (Ev.bind (same_ev l hl2) ?_)))
  refine Ev.congr (fun k => if_pos rfl) (Ev.bind (fits_ref l hl2) (Ev.congr (fun k => ?_) key))
  by_cases hF : fits5 l
  · rw [decide_eq_true hF, if_pos rfl, right_ref]
    simp only [Option.bind_some]
    have e : decide (holOk l a n) = decide (1 ≤ n ∧ n ≤ 512 ∧ 0 ≤ a ∧ a ≤ 512 - n) := by
      by_cases c : 1 ≤ n ∧ n ≤ 512 ∧ 0 ≤ a ∧ a ≤ 512 - n
      · rw [decide_eq_true c]; exact decide_eq_true ⟨hF, c⟩
      · rw [decide_eq_false c]; exact decide_eq_false (fun h => c h.2)
    rw [e]
  · rw [decide_eq_false hF, if_neg (by decide), decide_eq_false (fun h : holOk l a n => hF h.1)]; rfl
theorem awake_true : Ev (fun k => ferrulelaw15_awake.f k) true := Ev.of (fun k => ferrulelaw15_awake.mono k) (k := 60) (by decide +kernel)
theorem wf64 (x : Int) (h : (Lit.int .i64 x).wf = true) : -9223372036854775808 ≤ x ∧ x ≤ 9223372036854775807 := by simpa [Lit.wf, IntKind.min, IntKind.max, IntKind.signed, IntKind.bits] using h
theorem WindowTells : ferrulelaw15_WindowTells.Pure := by
  intro l p cap win a n _ hl _ _ hp hpw _ _ _ _
  have hall : ∀ i, 0 ≤ i → i < (p.length : Int) → (rd_T38 p i).f1 ≤ 9223372036854775807 := fun i i0 i1 => by
    have hin : i.toNat < p.length := by omega
    have hm : rd_T38 p i ∈ p := by
      have : rd_T38 p i = p[i.toNat] := by simp [rd_T38, hin]
      rw [this]; exact List.getElem_mem hin
    exact (wf64 _ (hpw _ hm).2.1).2
  refine Ev.rounds (g := fun k => ferrulelaw15_WindowTells.f k l p cap win a n) (r := true) ?_
  refine Ev.congr (fun k => by rw [ferrulelaw15_WindowTells.f]) ?_
  refine Ev.bind awake_true ?_
  refine Ev.congr (fun k => by rw [if_pos rfl]) ?_
  by_cases c1 : (p.length : Int) > 100
  · rw [decide_eq_true c1]
    exact Ev.step (fun k => by simp only [ferrulelaw15_WindowTells.j0, if_true]) (Ev.bind awake_true (Ev.now true))
  rw [decide_eq_false c1]
  obtain ⟨u, hF, hok⟩ := fold_ev p (by omega) hall
  refine Ev.step (f := fun k => (ferrulelaw15_tells.f k l cap win a n).bind fun t322 => (if t322 = true then ((ferruleref9_Fold.f k p).bind fun t323 => ((ferrulelaw15_tells.f k t323 cap win a n).bind fun t326 => (some t326))) else (some false))) (fun k => by simp only [ferrulelaw15_WindowTells.j0, Bool.false_eq_true, if_false]) ?_
  refine Ev.bind (tells_ev l (by omega) cap win a n) ?_
  refine Ev.congr (fun k => by rw [if_pos rfl]) ?_
  exact Ev.bind hF (Ev.bind (tells_ev u (by have := hok.1; omega) cap win a n) (Ev.now true))

end Go.Proofs.Ytigecigoomofdaa.Pure
