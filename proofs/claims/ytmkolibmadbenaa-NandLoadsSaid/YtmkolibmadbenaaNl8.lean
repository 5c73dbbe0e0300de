/- Functions of the flash, walked. Conditions: those of each theorem. -/
import Derived.Test.YtmkolibmadbenaaAm5
import Derived.Test.YtmkolibmadbenaaNl7
namespace Go.Proofs.Ytmkolibmadbenaa.Am
open Go.Proofs
set_option maxRecDepth 1000000
set_option maxHeartbeats 4000000
set_option linter.unusedSimpArgs false
set_option linter.unusedVariables false
theorem prS_IOk {x : NS} {np page b r : Nat} {D : List Int} {y : Bk} (N : NOk x np) (hD : 68 ≤ D.length) (hy : x.bk[b]? = some y) (hbad : y.bad = false) (ht : y.torn = false) (hn : y.next = r) (hr : r < x.p) (hpg : page = b * x.p + r) (H : IOk x) : IOk (prS x page b r D y) := by
  have hm : prM x ≤ 17 := by unfold prM; split <;> omega
  have key : ∀ k, k ≤ 17 → ∀ x', x'.p = x.p → x'.bs = bsK x.bs D page k → x'.bk = bkK x.bk b y r k → IOk x' := fun k hk x' h1 h2 h3 => by
    by_cases h0 : k = 0
    · subst h0
      refine IOk_same h1 ?_ ?_ H
      · rw [h2]; simp [bsK, over2_nil]
      · rw [h3]; simp [bkK]
    · refine IOk_same (x := { prK x page b r D y k with bk := x.bk.set b { y with next := (r : Int) + 1, bad := false } }) h1 h2 ?_ (prK_IOk N hD hy ht hn hr hpg H k hk (by omega) false)
      rw [h3]
      simp only [bkK, if_neg h0, ← hbad]
  have hX : ∀ k, (prK (prX x) page b r D y k).p = x.p ∧ (prK (prX x) page b r D y k).bs = bsK x.bs D page k ∧ (prK (prX x) page b r D y k).bk = bkK x.bk b y r k := fun k => ⟨prX_p x, by simp only [prK, prX_bs], by simp only [prK, prX_bk]⟩
  unfold prS
  split
  · obtain ⟨a1, a2, a3⟩ := hX x.cut.toNat
    exact key _ (by omega) _ a1 a2 a3
  · split
    · obtain ⟨a1, a2, a3⟩ := hX 4
      exact IOk_same (x := { prK x page b r D y 4 with bk := x.bk.set b { y with next := (r : Int) + 1, bad := true } }) a1 a2 rfl (prK_IOk N hD hy ht hn hr hpg H 4 (by omega) (by omega) true)
    · obtain ⟨a1, a2, a3⟩ := hX 17
      exact key _ (by omega) _ a1 a2 a3
theorem pgS_IOk {x : NS} {np : Nat} (N : NOk x np) (H : IOk x) (z : Int) (D : List Int) : IOk (pgS x np z D) := by
  unfold pgS
  split
  · exact H
  · next h0 =>
    split
    · exact H
    · obtain ⟨page, b, r, y, rfl, h1, hb, hr, hy, hq, hm, hrp⟩ := page_at N (z := z) (by omega)
      simp only [Int.toNat_natCast]
      rw [hb, hr, hy]
      dsimp only
      split
      · exact H
      · next hb1 =>
        split
        · exact H
        · next ht =>
          have ht1 : y.torn = false := by have := fun e => ht (.inl e); simpa using this
          have ht2 : y.next = (r : Int) := by have := fun e => ht (.inr e); omega
          exact prS_IOk N (by omega) hy (by simpa using hb1) ht1 ht2 hrp (by rw [← hb, ← hr, Nat.mul_comm]; exact (Nat.div_add_mod _ _).symm) H
theorem over2_twice {xs : List Int} {o w : Nat} {a v : Int} (h : o + w ≤ xs.length) : over2 (over2 xs o (List.replicate w a)) o (List.replicate w v) = over2 xs o (List.replicate w v) := by
  have h1 : o + (List.replicate w a).length ≤ xs.length := by rw [List.length_replicate]; exact h
  have h2 : o + (List.replicate w v).length ≤ xs.length := by rw [List.length_replicate]; exact h
  have hl := over2_len h1
  apply List.ext_getElem?
  intro i
  by_cases c1 : i < o
  · rw [over2_get1 (by omega) c1, over2_get1 h1 c1, over2_get1 h2 c1]
  · by_cases c2 : i < o + w
    · rw [over2_get2 (by omega) (by omega) (by rw [List.length_replicate]; exact c2), over2_get2 h2 (by omega) (by rw [List.length_replicate]; exact c2)]
    · rw [over2_get3 (by omega) (by rw [List.length_replicate]; omega), over2_get3 h1 (by rw [List.length_replicate]; omega), over2_get3 h2 (by rw [List.length_replicate]; omega)]
theorem erX_IOk {x : NS} {n : Nat} {y : Bk} (hy : x.bk[n]? = some y) (H : IOk x) : IOk (erX x n y) := by
  obtain ⟨b1, b2, b3, _⟩ := bgS_keep { x with er := x.er + 1, bk := x.bk.set n { y with wear := y.wear + 1 } }
  refine IOk_keep (x := x) b1 b2 (fun k z hz => ?_) H
  have e3 : (erX x n y).bk = x.bk.set n { y with wear := y.wear + 1 } := b3
  rw [e3, List.getElem?_set] at hz
  split at hz
  · next e =>
    subst e
    split at hz
    · exact ⟨y, hy, by rw [← Option.some.inj hz]; rfl⟩
    · cases hz
  · exact ⟨z, hz, rfl⟩
theorem stS_IOk {x : NS} (H : IOk x) : IOk (stS x) := by
  obtain ⟨c1, c2, c3, _⟩ := stS_keep x
  exact IOk_same c1 c2 c3 H
/-- A block filled. -/
theorem erF_IOk {x x' : NS} {np n o : Nat} {v : Int} {z : Bk} (N : NOk x np) (hn : n < x.bk.length) (hp : x'.p = x.p) (hbs : x'.bs = over2 x.bs (n * x.p * 68) (List.replicate (x.p * 68) v)) (hbk : x'.bk = x.bk.set n z) (hz0 : z.next = 0) (hv : z.torn = true ∧ v = 0 ∨ z.torn = false ∧ v = 255) (H : IOk x) : IOk x' := by
  have hl := block_le N hn
  have e1 : (n + 1) * (x.p * 68) = n * (x.p * 68) + x.p * 68 := Nat.succ_mul _ _
  have e2 : n * x.p * 68 = n * (x.p * 68) := Nat.mul_assoc _ _ _
  rw [e2] at hbs
  refine IOk_set (n := n) (o := n * (x.p * 68)) N hp hbs hbk hn (Nat.le_refl _) (by rw [List.length_replicate]; omega) ⟨fun h => ?_, fun h => ?_⟩ H
  · rcases hv with ⟨_, rfl⟩ | ⟨h2, _⟩
    · exact ⟨hz0, allB_same (by omega)⟩
    · rw [h] at h2; cases h2
  · rcases hv with ⟨h2, _⟩ | ⟨_, rfl⟩
    · rw [h] at h2; cases h2
    · rw [hz0]
      exact allB_same (by omega)
theorem esS_IOk {x : NS} {np : Nat} (N : NOk x np) (her : x.er + 1 ≤ 1000) (H : IOk x) (z : Int) : IOk (esS x z) := by
  unfold esS
  split
  · exact H
  · next h0 =>
    split
    · exact H
    · obtain ⟨n, rfl⟩ : ∃ n : Nat, z = n := ⟨z.toNat, by omega⟩
      obtain ⟨y, hy⟩ : ∃ y, x.bk[n]? = some y := ⟨_, List.getElem?_eq_getElem (by omega)⟩
      simp only [Int.toNat_natCast, hy]
      split
      · exact H
      · have hyw := N.wr y (List.mem_of_getElem? hy)
        obtain ⟨u1, u2, u3, u4, u5⟩ := erX_ok N hy her
        obtain ⟨a1, a2⟩ := stS_ok u1
        have hn : n < x.bk.length := by omega
        have Ka := kep_trans u2 a2
        have ap : (stS (erX x n y)).p = x.p := Ka.p
        have an : n < (stS (erX x n y)).bk.length := by rw [Ka.len]; exact hn
        have ah := stS_IOk (erX_IOk hy H)
        have dh : IOk (erF (stS (erX x n y)) n (n * x.p * 68) (x.p * 68) 0 ⟨0, y.bad, true, y.wear + 1⟩) := erF_IOk (o := 0) a1 an rfl (by rw [ap]; rfl) rfl rfl (.inl ⟨rfl, rfl⟩) ah
        obtain ⟨i1, i2⟩ := block_in N hn
        obtain ⟨d1, d2⟩ := erF_ok (n := n) (o := n * x.p * 68) (w := x.p * 68) (v := 0) (z := ⟨0, y.bad, true, y.wear + 1⟩) a1 (by have := block_in N hn; rw [Nat.add_mul] at this; rw [Ka.bs]; omega) ⟨Int.le_refl _, by simp only; omega⟩ ⟨by simp only; omega, by obtain ⟨_, _, _, _, _, _, k7, _⟩ := stS_keep (erX x n y); simp only; omega⟩
        obtain ⟨g1, g2⟩ := stS_ok d1
        have Kd := kep_trans Ka d2
        have Kg := kep_trans Kd g2
        unfold erS
        simp only
        split
        · exact ah
        · split
          · exact erF_IOk (o := 0) a1 an rfl (by rw [ap]; rfl) rfl rfl (.inl ⟨rfl, rfl⟩) ah
          · split
            · exact stS_IOk dh
            · exact erF_IOk (o := 0) g1 (by rw [Kg.len]; exact hn) rfl (by rw [Kg.p]; rfl) rfl rfl (.inr ⟨rfl, rfl⟩) (stS_IOk dh)
theorem ns0_IOk (b p np : Nat) (hp : b * p = np) : IOk (ns0 b p np) := fun k y hy => by
  have hl := (List.getElem?_eq_some_iff.1 hy).1
  have h1 : k < b := by simpa [ns0] using hl
  have hy2 : y = ⟨0, false, false, 0⟩ := by
    simp only [ns0, List.getElem?_replicate, if_pos h1, Option.some.injEq] at hy; exact hy.symm
  subst hy2
  have h2 : (k + 1) * p ≤ b * p := Nat.mul_le_mul h1 (Nat.le_refl _)
  have e1 : (k + 1) * p = k * p + p := Nat.succ_mul _ _
  have e2 : k * (p * 68) = k * p * 68 := (Nat.mul_assoc _ _ _).symm
  refine ⟨fun h => (by cases h), fun _ => ?_⟩
  simp only [ns0, Int.toNat_zero, Nat.zero_mul, Nat.add_zero, Nat.sub_zero]
  rw [allB_iff (by rw [List.length_replicate]; omega)]
  intro j hj
  rw [List.getElem?_replicate, if_pos (by omega)]
end Go.Proofs.Ytmkolibmadbenaa.Am

