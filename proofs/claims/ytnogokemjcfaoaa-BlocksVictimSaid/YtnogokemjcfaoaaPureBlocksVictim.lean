/- For every list of numbers and every list of bools: no block that may be taken has fewer valid pages than the one that blocks.Victim tells, none with as many a lesser number. Conditions: none beyond the row's own. -/
import Derived.Test.YtnogokemjcfaoaaPBlocksVictimx6
namespace Go.Proofs.Ytnogokemjcfaoaa.Pure
open Go.RowKit Go.Proofs.Ytnogokemjcfaoaa.PBlocksVictim Go.Proofs.YtnogokemjcfaoaaW.PrintWords Go.Proofs.YtnogokemjcfaoaaW.PrintLast Go.Proofs.YtnogokemjcfaoaaW.PrintMore

theorem vic_wrap {i n : Int} (h0 : 0 ≤ i) (h : i < n) (hn : n ≤ 140737488351232) : wrap64 (i + 1) = i + 1 := by unfold wrap64; omega

/-- What is known of the best block behind the first i. -/
def VicInv (v : List Int) (m : List Bool) (best i : Int) : Prop :=
  (best = -1 ∧ ∀ j, 0 ≤ j → j < i → rdOf false m j = false) ∨
  (0 ≤ best ∧ best < i ∧ rdOf false m best = true ∧ ∀ j, 0 ≤ j → j < i → rdOf false m j = true → rd v best < rd v j ∨ (rd v best = rd v j ∧ best ≤ j))

theorem vic_loop (v : List Int) (m : List Bool) (n : Int) (hv : n ≤ v.length) (hm : n ≤ m.length) (hn : n ≤ 140737488351232) (d : Nat) : ∀ (i best : Int), n - i = d → 0 ≤ i → i ≤ n → VicInv v m best i →
    ∃ best', VicInv v m best' n ∧ Ev (fun k => blocks_Victim.l0 k v m best n i) (mx best' 0, decide (best' ≥ 0)) := by
  induction d with
  | zero =>
    intro i best hd h0 h1 hI
    obtain rfl : i = n := by omega
    refine ⟨best, hI, Ev.step (fun k => ?_) (Ev.now _)⟩
    simp only [blocks_Victim.l0]
    rw [if_neg (by omega)]
  | succ d ih =>
    intro i best hd h0 h1 hI
    have hlt : i < n := by omega
    have hw := vic_wrap h0 hlt hn
    by_cases hmi : rdOf false m i = true
    · by_cases hb : best < 0
      · obtain ⟨b', hI', hE⟩ := ih (i + 1) i (by omega) (by omega) (by omega) (by
          refine Or.inr ⟨h0, by omega, hmi, fun j hj0 hj1 hj => ?_⟩
          rcases hI with ⟨_, hall⟩ | ⟨hb0, _⟩
          · by_cases e : j = i
            · subst e; exact Or.inr ⟨rfl, Int.le_refl _⟩
            · have := hall j hj0 (by omega); rw [this] at hj; cases hj
          · omega)
        refine ⟨b', hI', Ev.step (fun k => ?_) hE⟩
        simp only [blocks_Victim.l0]
        rw [if_pos hlt, if_pos h0, if_pos (by omega), if_pos hmi, if_pos hb, hw]
      · rcases hI with ⟨hb1, _⟩ | ⟨hb0, hbi, hbm, hall⟩
        · omega
        by_cases hl : rd v i < rd v best
        · obtain ⟨b', hI', hE⟩ := ih (i + 1) i (by omega) (by omega) (by omega) (by
            refine Or.inr ⟨h0, by omega, hmi, fun j hj0 hj1 hj => ?_⟩
            by_cases e : j = i
            · subst e; exact Or.inr ⟨rfl, Int.le_refl _⟩
            · have := hall j hj0 (by omega) hj; omega)
          refine ⟨b', hI', Ev.step (fun k => ?_) hE⟩
          simp only [blocks_Victim.l0]
          rw [if_pos hlt, if_pos h0, if_pos (by omega), if_pos hmi, if_neg hb, if_pos (by omega), if_pos hb0, if_pos (by omega), if_pos hl, hw]
        · obtain ⟨b', hI', hE⟩ := ih (i + 1) best (by omega) (by omega) (by omega) (by
            refine Or.inr ⟨hb0, by omega, hbm, fun j hj0 hj1 hj => ?_⟩
            by_cases e : j = i
            · subst e; omega
            · exact hall j hj0 (by omega) hj)
          refine ⟨b', hI', Ev.step (fun k => ?_) hE⟩
          simp only [blocks_Victim.l0]
          rw [if_pos hlt, if_pos h0, if_pos (by omega), if_pos hmi, if_neg hb, if_pos (by omega), if_pos hb0, if_pos (by omega), if_neg hl, hw]
    · obtain ⟨b', hI', hE⟩ := ih (i + 1) best (by omega) (by omega) (by omega) (by
        have hf : rdOf false m i = false := by simpa using hmi
        rcases hI with ⟨hb, hall⟩ | ⟨hb0, hbi, hbm, hall⟩
        · refine Or.inl ⟨hb, fun j hj0 hj1 => ?_⟩
          by_cases e : j = i
          · subst e; exact hf
          · exact hall j hj0 (by omega)
        · refine Or.inr ⟨hb0, by omega, hbm, fun j hj0 hj1 hj => ?_⟩
          by_cases e : j = i
          · subst e; rw [hf] at hj; cases hj
          · exact hall j hj0 (by omega) hj)
      refine ⟨b', hI', Ev.step (fun k => ?_) hE⟩
      simp only [blocks_Victim.l0]
      rw [if_pos hlt, if_pos h0, if_pos (by omega), if_neg hmi, hw]

theorem law_loop (v : List Int) (m : List Bool) (n b : Int) (ok : Bool) (hnv : n ≤ v.length) (hnm : n ≤ m.length) (hN : n = v.length ∨ n = m.length) (hn : n ≤ 140737488351232)
    (hok : ok = true → 0 ≤ b ∧ b < n ∧ rdOf false m b = true ∧ ∀ j, 0 ≤ j → j < n → rdOf false m j = true → rd v b < rd v j ∨ (rd v b = rd v j ∧ b ≤ j))
    (hno : ok = false → b = 0 ∧ ∀ j, 0 ≤ j → j < n → rdOf false m j = false) (d : Nat) : ∀ (i : Int) (some_ : Bool), n - i = d → 0 ≤ i → i ≤ n →
    (ok = false → some_ = false) → (ok = true → b < i → some_ = true) →
    Ev (fun k => ferrulelaw13_BlocksVictim.l0 k v m b ok some_ i) true := by
  induction d with
  | zero =>
    intro i s hd h0 h1 hs1 hs2
    obtain rfl : i = n := by omega
    have hs : s = ok := by
      cases ok with
      | true => exact hs2 rfl (hok rfl).2.1
      | false => exact hs1 rfl
    subst hs
    refine Ev.step (f := fun k => ferrulelaw13_BlocksVictim.j1 k v m b s s i false) (fun k => ?_) ?_
    · simp only [ferrulelaw13_BlocksVictim.l0]
      by_cases h : i < (v.length : Int)
      · rw [if_pos h, decide_eq_false (by omega)]
      · rw [if_neg h]
    · refine Ev.step (f := fun _ => some true) (fun k => ?_) (Ev.now _)
      simp only [ferrulelaw13_BlocksVictim.j1]
      cases s with
      | true =>
        obtain ⟨a, b', c, _⟩ := hok rfl
        have h9 : b < (m.length : Int) := by omega
        simp [a, c, h9]
      | false =>
        obtain ⟨a, _⟩ := hno rfl
        simp [a]
  | succ d ih =>
    intro i s hd h0 h1 hs1 hs2
    have hlt : i < n := by omega
    have hw := vic_wrap h0 hlt hn
    refine Ev.step (f := fun k => ferrulelaw13_BlocksVictim.j1 k v m b ok s i true) (fun k => ?_) ?_
    · simp only [ferrulelaw13_BlocksVictim.l0]
      rw [if_pos (by omega), decide_eq_true (by omega)]
    have key : Ev (fun k => ferrulelaw13_BlocksVictim.l0 k v m b ok (s || rdOf false m i) (i + 1)) true := by
      refine ih (i + 1) _ (by omega) (by omega) (by omega) ?_ ?_
      · intro h
        rw [hs1 h, (hno h).2 i h0 hlt]; rfl
      · intro h hb
        by_cases e : b = i
        · subst e; rw [(hok h).2.2.1]; simp
        · rw [hs2 h (by omega)]; rfl
    refine Ev.step (fun k => ?_) key
    simp only [ferrulelaw13_BlocksVictim.j1]
    rw [hw]
    have a1 : i < (m.length : Int) := by omega
    have a2 : i < (v.length : Int) := by omega
    cases hmi : rdOf false m i with
    | false => cases s <;> simp [h0, a1]
    | true =>
      cases ok with
      | false => have := (hno rfl).2 i h0 hlt; rw [hmi] at this; cases this
      | true =>
        obtain ⟨c0, c1, c2, c3⟩ := hok rfl
        have c4 := c3 i h0 hlt hmi
        have e1 : ¬ b < 0 := by omega
        have e2 : ¬ b ≥ (v.length : Int) := by omega
        have e3 : ¬ rd v i < rd v b := by omega
        have e4 : b < (v.length : Int) := by omega
        by_cases e5 : rd v i = rd v b
        · have e6 : ¬ i < b := by omega
          cases s <;> simp only [if_true, if_pos h0, if_pos a1, if_neg e1, if_neg e2, if_pos a2, if_pos c0, if_pos e4, if_neg e3, if_pos e5, if_neg e6, Bool.true_or, Bool.false_or, Bool.false_eq_true, if_false]
        · cases s <;> simp only [if_true, if_pos h0, if_pos a1, if_neg e1, if_neg e2, if_pos a2, if_pos c0, if_pos e4, if_neg e3, if_neg e5, Bool.true_or, Bool.false_or, Bool.false_eq_true, if_false]

theorem awake_true : Ev (fun k => ferrulelaw13_awake.f k) true := Ev.of (fun k => ferrulelaw13_awake.mono k) (k := 60) (by decide +kernel)

theorem BlocksVictim : ferrulelaw13_BlocksVictim.Pure := by
  intro v m _ hv _ _ hm
  refine Ev.rounds (g := fun k => ferrulelaw13_BlocksVictim.f k v m) (r := true) ?_
  have hmn : mn (v.length : Int) (m.length : Int) ≤ v.length ∧ mn (v.length : Int) (m.length : Int) ≤ m.length ∧ (mn (v.length : Int) (m.length : Int) = v.length ∨ mn (v.length : Int) (m.length : Int) = m.length) ∧ 0 ≤ mn (v.length : Int) (m.length : Int) := by
    unfold mn; split <;> omega
  obtain ⟨h1, h2, h3, h4⟩ := hmn
  generalize hn : mn (v.length : Int) (m.length : Int) = n at *
  obtain ⟨b, hI, hE⟩ := vic_loop v m n h1 h2 (by omega) n.toNat 0 (-1) (by omega) (by omega) h4 (Or.inl ⟨rfl, fun j h0 h1 => by omega⟩)
  refine Ev.congr (fun k => by rw [ferrulelaw13_BlocksVictim.f]) ?_
  refine Ev.bind awake_true ?_
  refine Ev.congr (fun k => by rw [if_pos rfl]) ?_
  refine Ev.bind (g := fun k => blocks_Victim.f k v m) (a := (mx b 0, decide (b ≥ 0))) (Ev.congr (fun k => by rw [blocks_Victim.f, hn]) hE) ?_
  refine law_loop v m n _ _ h1 h2 h3 (by omega) ?_ ?_ n.toNat 0 false (by omega) (by omega) h4 (fun _ => rfl) ?_
  · intro h
    have hb : b ≥ 0 := by simpa using h
    have hmx : mx b 0 = b := by unfold mx; omega
    rcases hI with ⟨e, _⟩ | ⟨i0, i1, i2, i3⟩
    · omega
    · rw [hmx]; exact ⟨i0, i1, i2, i3⟩
  · intro h
    have hb : ¬ b ≥ 0 := by simpa using h
    have hmx : mx b 0 = 0 := by unfold mx; omega
    rcases hI with ⟨e, hall⟩ | ⟨i0, _⟩
    · exact ⟨hmx, hall⟩
    · omega
  · intro h hb
    have hb' : b ≥ 0 := by simpa using h
    have hmx : mx b 0 = b := by unfold mx; omega
    simp only [hmx] at hb
    omega

end Go.Proofs.Ytnogokemjcfaoaa.Pure
