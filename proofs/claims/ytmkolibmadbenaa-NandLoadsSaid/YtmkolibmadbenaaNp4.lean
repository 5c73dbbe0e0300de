/- Functions of the flash, walked. Conditions: those of each theorem. -/
import Derived.Test.YtmkolibmadbenaaAm5
import Derived.Test.YtmkolibmadbenaaNp3
import Derived.Test.YtmkolibmadbenaaNd3
import Derived.Test.YtmkolibmadbenaaNr2
import Derived.Test.YtmkolibmadbenaaNr3
import Derived.Test.YtmkolibmadbenaaNd4
namespace Go.Proofs.Ytmkolibmadbenaa.Am
open Go.Proofs
set_option maxRecDepth 1000000
set_option maxHeartbeats 4000000
set_option linter.unusedSimpArgs false
set_option linter.unusedVariables false
/-- What a program of a page answers, and leaves. -/
def pgE (x : NS) (np : Nat) (z : Int) (n : Nat) : Int :=
  if z < 0 ∨ (np : Int) ≤ z ∨ ¬ n = 68 then 1 else if x.off = true then 7 else
  match x.bk[z.toNat / x.p]? with
  | none => 0
  | some y => if y.bad = true then 6 else if y.torn = true ∨ ¬ ((z.toNat % x.p : Nat) : Int) = y.next then 8 else prE x
def pgS (x : NS) (np : Nat) (z : Int) (D : List Int) : NS :=
  if z < 0 ∨ (np : Int) ≤ z ∨ ¬ D.length = 68 then x else if x.off = true then x else
  match x.bk[z.toNat / x.p]? with
  | none => x
  | some y => if y.bad = true then x else if y.torn = true ∨ ¬ ((z.toNat % x.p : Nat) : Int) = y.next then x else prS x z.toNat (z.toNat / x.p) (z.toNat % x.p) D y
theorem prK_app (x : NS) (page b r : Nat) (D : List Int) (y : Bk) (k : Nat) (w : Int) (h : k * 4 ≤ D.length) : prK x page b r (D ++ [w]) y k = prK x page b r D y k := by
  simp only [prK, bsK]; rw [List.take_append_of_le_length h]
theorem prS_app (x : NS) (page b r : Nat) (D : List Int) (y : Bk) (w : Int) (h : D.length = 68) : prS x page b r (D ++ [w]) y = prS x page b r D y := by
  unfold prS
  have hm : prM x ≤ 17 := by unfold prM; split <;> omega
  split
  · next hc => rw [prK_app _ _ _ _ _ _ _ _ (by omega)]
  · split
    · rw [prK_app _ _ _ _ _ _ _ _ (by omega)]
    · rw [prK_app _ _ _ _ _ _ _ _ (by omega)]
theorem page_at {x : NS} {np : Nat} (H : NOk x np) {z : Int} (h : ¬ (z < 0 ∨ (np : Int) ≤ z)) : ∃ page b r y, z = (page : Nat) ∧ page < np ∧ page / x.p = b ∧ page % x.p = r ∧ x.bk[b]? = some y ∧ (page : Int).tdiv x.p = (b : Int) ∧ (page : Int).tmod x.p = (r : Int) ∧ r < x.p := by
  obtain ⟨page, rfl⟩ : ∃ n : Nat, z = n := ⟨z.toNat, by omega⟩
  have hp0 : 0 < x.p := H.p1
  have hb : page / x.p < x.bk.length := by
    rw [Nat.div_lt_iff_lt_mul hp0]
    have : (x.bk.length * x.p : Nat) = np := by have := H.hp; exact_mod_cast this
    rw [this]; omega
  refine ⟨page, page / x.p, page % x.p, x.bk[page / x.p], rfl, by omega, rfl, rfl, List.getElem?_eq_getElem hb, ?_, ?_, Nat.mod_lt _ hp0⟩
  · rw [Int.tdiv_eq_ediv_of_nonneg (by omega)]; exact (Int.natCast_ediv page x.p).symm
  · rw [Int.tmod_eq_emod_of_nonneg (by omega)]; exact (Int.natCast_emod page x.p).symm
theorem program_any (x : NS) (np : Nat) (H : NOk x np) (z : Int) (n c : Nat) (q : Bool) (D : List Int) (w : List Int) (hw : w = [] ∨ ∃ e, w = [e]) (hD : D.length = n) (hn : n ≤ 300) (hc : n ≤ c) :
    FM Try.prog 10 [.p (some (2,0)), .i .i64 z, .sl (some (3,0)) n c q] (ndM x ++ dtB (D ++ w)) (fun v M' => v = .i .i64 (pgE x np z n) ∧ M' = ndM (pgS x np z D) ++ dtB (D ++ w)) := by
  unfold pgE pgS
  rw [hD]
  by_cases h0 : z < 0 ∨ (np : Int) ≤ z ∨ ¬ n = 68
  · rw [if_pos h0, if_pos h0]
    exact program_arg x (D ++ w) z n c np (some (3,0)) q (.inr rfl) H.hp H.np2 h0 (by omega) H.bk2
  · rw [if_neg h0, if_neg h0]
    obtain ⟨page, b, r, y, rfl, h1, rfl, rfl, hy, hq, hr, hrp⟩ := page_at H (z := z) (by omega)
    obtain rfl : n = 68 := by omega
    simp only [Int.toNat_natCast, hy]
    have N := fun e he => program_no x (D ++ w) page c np _ _ q y e H.hp H.np2 h1 hy hq hr H.p1 hrp (by have := H.p2; omega) H.bk2 he
    by_cases ho : x.off = true
    · rw [if_pos ho, if_pos ho]
      exact N 7 (by rw [if_pos ho])
    · rw [if_neg ho, if_neg ho]
      by_cases hb : y.bad = true
      · rw [if_pos hb, if_pos hb]
        exact N 6 (by rw [if_neg ho, if_pos hb])
      · rw [if_neg hb, if_neg hb]
        by_cases ht : y.torn = true ∨ ¬ ((page % x.p : Nat) : Int) = y.next
        · rw [if_pos ht, if_pos ht]
          exact N 8 (by rw [if_neg ho, if_neg hb]; exact ⟨rfl, ht⟩)
        · rw [if_neg ht, if_neg ht]
          have G := program_go x (D ++ w) page c np _ _ q y H.hp H.np2 h1 hy hq hr H.p1 hrp (by have := H.p2; omega) H.bk2 (by simpa using ho) (by simpa using hb) (by have := fun e => ht (.inl e); simpa using this) (Decidable.not_not.1 fun e => ht (.inr fun e2 => e e2.symm)) H.bs (by rw [List.length_append]; omega) hc H.cut2 H.cut1 H.fail2 H.fail1 (by have := H.pr2; omega) H.pr1
          have e : prS x page (page / x.p) (page % x.p) (D ++ w) y = prS x page (page / x.p) (page % x.p) D y := by
            rcases hw with rfl | ⟨e, rfl⟩
            · rw [List.append_nil]
            · exact prS_app _ _ _ _ _ _ _ hD
          rw [e] at G
          exact G
theorem rprogram_any (x : NS) (np : Nat) (H : NOk x np) (z : Int) (n c : Nat) (q : Bool) (D : List Int) (hD : D.length = n) (hn : n ≤ 300) :
    FM Try.prog 18 [.p (some (4,0)), .i .i64 z, .sl (some (5,0)) n c q] (rfM x ++ dtA D) (fun v M' => v = .i .i64 (pgE x np z n) ∧ M' = rfM (pgS x np z D) ++ dtA D) := by
  unfold pgE pgS
  rw [hD]
  by_cases h0 : z < 0 ∨ (np : Int) ≤ z ∨ ¬ n = 68
  · rw [if_pos h0, if_pos h0]
    exact rprogram_arg x D z n c np (some (5,0)) q H.hp H.np2 h0 (by omega) H.bk2
  · rw [if_neg h0, if_neg h0]
    obtain ⟨page, b, r, y, rfl, h1, rfl, rfl, hy, hq, hr, hrp⟩ := page_at H (z := z) (by omega)
    obtain rfl : n = 68 := by omega
    simp only [Int.toNat_natCast, hy]
    have N := fun e he => rprogram_no x D page c np _ _ q y e H.hp H.np2 h1 hy hq hr H.p1 hrp (by have := H.p2; omega) H.bk2 he
    by_cases ho : x.off = true
    · rw [if_pos ho, if_pos ho]
      exact N 7 (by rw [if_pos ho])
    · rw [if_neg ho, if_neg ho]
      by_cases hb : y.bad = true
      · rw [if_pos hb, if_pos hb]
        exact N 6 (by rw [if_neg ho, if_pos hb])
      · rw [if_neg hb, if_neg hb]
        by_cases ht : y.torn = true ∨ ¬ ((page % x.p : Nat) : Int) = y.next
        · rw [if_pos ht, if_pos ht]
          exact N 8 (by rw [if_neg ho, if_neg hb]; exact ⟨rfl, ht⟩)
        · rw [if_neg ht, if_neg ht]
          exact rprogram_go x D page c np _ _ q y H.hp H.np2 h1 hy hq hr H.p1 hrp (by have := H.p2; omega) H.bk2 (by simpa using ho) (by simpa using hb) (by have := fun e => ht (.inl e); simpa using this) (Decidable.not_not.1 fun e => ht (.inr fun e2 => e e2.symm)) H.bs hD H.cut2 H.cut1 H.fail2 H.fail1 (by have := H.pr2; omega) H.pr1
/-- What an erase answers, and leaves. -/
def esE (x : NS) (z : Int) : Int :=
  if z < 0 ∨ (x.bk.length : Int) ≤ z then 1 else if x.off = true then 7 else
  match x.bk[z.toNat]? with
  | none => 0
  | some y => if y.bad = true then 6 else erE x z.toNat (z.toNat * x.p * 68) (x.p * 68) y
def esS (x : NS) (z : Int) : NS :=
  if z < 0 ∨ (x.bk.length : Int) ≤ z then x else if x.off = true then x else
  match x.bk[z.toNat]? with
  | none => x
  | some y => if y.bad = true then x else erS x z.toNat (z.toNat * x.p * 68) (x.p * 68) y
theorem block_in {x : NS} {np : Nat} (H : NOk x np) {n : Nat} (h : n < x.bk.length) : (n * x.p + x.p) * 68 ≤ x.bs.length ∧ x.bs.length ≤ 1000000 := by
  have h1 : (n + 1) * x.p ≤ x.bk.length * x.p := Nat.mul_le_mul h (Nat.le_refl _)
  have h2 : (x.bk.length * x.p : Nat) = np := by have := H.hp; exact_mod_cast this
  have h3 := H.bs
  have h4 := H.np2
  rw [Nat.succ_mul] at h1
  omega
theorem erase_any (x : NS) (np : Nat) (H : NOk x np) (z : Int) : FM Try.prog 13 [.p (some (2,0)), .i .i64 z] (ndM x) (fun v M' => v = .i .i64 (esE x z) ∧ M' = ndM (esS x z)) := by
  unfold esE esS
  by_cases h0 : z < 0 ∨ (x.bk.length : Int) ≤ z
  · rw [if_pos h0, if_pos h0]
    exact erase_arg x z h0 (by have := H.bk2; omega)
  · rw [if_neg h0, if_neg h0]
    obtain ⟨n, rfl⟩ : ∃ n : Nat, z = n := ⟨z.toNat, by omega⟩
    obtain ⟨y, hy⟩ : ∃ y, x.bk[n]? = some y := ⟨_, List.getElem?_eq_getElem (by omega)⟩
    simp only [Int.toNat_natCast, hy]
    by_cases ho : x.off = true
    · rw [if_pos ho, if_pos ho]
      exact erase_no x n y 7 hy (by have := H.bk2; omega) (by rw [if_pos ho])
    · rw [if_neg ho, if_neg ho]
      by_cases hb : y.bad = true
      · rw [if_pos hb, if_pos hb]
        exact erase_no x n y 6 hy (by have := H.bk2; omega) (by rw [if_neg ho]; exact ⟨rfl, hb⟩)
      · rw [if_neg hb, if_neg hb]
        obtain ⟨i1, i2⟩ := block_in H (n := n) (by omega)
        have hwy := H.wr y (List.mem_of_getElem? hy)
        have he2 := H.er2
        exact erase_go x n (n * x.p) y hy H.bk2 (by push_cast; rfl) (by push_cast; rw [Int.add_mul, Int.one_mul]) i1 i2 H.p1 (by simpa using ho) (by simpa using hb) H.cut2 H.cut1 H.fail2 H.fail1 (by omega) H.er1 (by omega) hwy.1
theorem rerase_any (x : NS) (np : Nat) (H : NOk x np) (z : Int) : FM Try.prog 19 [.p (some (4,0)), .i .i64 z] (rfM x) (fun v M' => v = .i .i64 (esE x z) ∧ M' = rfM (esS x z)) := by
  unfold esE esS
  by_cases h0 : z < 0 ∨ (x.bk.length : Int) ≤ z
  · rw [if_pos h0, if_pos h0]
    exact rerase_arg x z h0 (by have := H.bk2; omega)
  · rw [if_neg h0, if_neg h0]
    obtain ⟨n, rfl⟩ : ∃ n : Nat, z = n := ⟨z.toNat, by omega⟩
    obtain ⟨y, hy⟩ : ∃ y, x.bk[n]? = some y := ⟨_, List.getElem?_eq_getElem (by omega)⟩
    simp only [Int.toNat_natCast, hy]
    by_cases ho : x.off = true
    · rw [if_pos ho, if_pos ho]
      exact rerase_no x n y 7 hy (by have := H.bk2; omega) (by rw [if_pos ho])
    · rw [if_neg ho, if_neg ho]
      by_cases hb : y.bad = true
      · rw [if_pos hb, if_pos hb]
        exact rerase_no x n y 6 hy (by have := H.bk2; omega) (by rw [if_neg ho]; exact ⟨rfl, hb⟩)
      · rw [if_neg hb, if_neg hb]
        obtain ⟨i1, i2⟩ := block_in H (n := n) (by omega)
        have he2 := H.er2
        exact rerase_go x n (n * x.p) y hy H.bk2 (by push_cast; rw [Int.mul_assoc]) (by push_cast; rw [Int.add_mul, Int.one_mul, Int.add_mul, Int.mul_assoc]) i1 i2 H.p1 (by simpa using ho) (by simpa using hb) H.cut2 H.cut1 H.fail2 H.fail1 (by omega) H.er1
end Go.Proofs.Ytmkolibmadbenaa.Am

