/- Functions of the flash, walked. Conditions: those of each theorem. -/
import Derived.Test.YtmkolibmadbenaaAm5
import Derived.Test.YtmkolibmadbenaaNl8
namespace Go.Proofs.Ytmkolibmadbenaa.Am
open Go.Proofs
set_option maxRecDepth 1000000
set_option maxHeartbeats 4000000
set_option linter.unusedSimpArgs false
set_option linter.unusedVariables false
theorem imI_len (x : NS) : (imI x).length = x.bs.length + 2 * x.bk.length := by
  unfold imI; rw [List.length_append, tlI_len _ _ (Nat.le_refl _)]
theorem tlI_get {bk : List Bk} {k : Nat} {y : Bk} (hy : bk[k]? = some y) : ∀ m, k < m → m ≤ bk.length → (tlI bk m)[2 * k]? = some (flg y) ∧ (tlI bk m)[2 * k + 1]? = some y.next
  | 0, h, _ => absurd h (Nat.not_lt_zero _)
  | m + 1, h, hm => by
    have hl := tlI_len bk m (by omega)
    obtain ⟨z, hz⟩ : ∃ z, bk[m]? = some z := ⟨_, List.getElem?_eq_getElem (by omega)⟩
    rw [tlI_succ hz]
    by_cases hk : k < m
    · obtain ⟨g1, g2⟩ := tlI_get hy m hk (by omega)
      rw [List.getElem?_append_left (by omega), List.getElem?_append_left (by omega)]
      exact ⟨g1, g2⟩
    · obtain rfl : k = m := by omega
      rw [hy] at hz
      obtain rfl := Option.some.inj hz
      rw [List.getElem?_append_right (by omega), List.getElem?_append_right (by omega), hl, Nat.sub_self, show 2 * k + 1 - 2 * k = 1 by omega]
      exact ⟨rfl, rfl⟩
theorem fg_im {x : NS} {k : Nat} {y : Bk} (hy : x.bk[k]? = some y) : fgI (imI x) x.bs.length k = flg y ∧ nxI (imI x) x.bs.length k = y.next := by
  obtain ⟨g1, g2⟩ := tlI_get hy x.bk.length (List.getElem?_eq_some_iff.1 hy).1 (Nat.le_refl _)
  unfold fgI nxI imI
  rw [List.getD_eq_getElem?_getD, List.getD_eq_getElem?_getD, List.getElem?_append_right (by omega), List.getElem?_append_right (by omega), show x.bs.length + 2 * k - x.bs.length = 2 * k by omega, show x.bs.length + 2 * k + 1 - x.bs.length = 2 * k + 1 by omega, g1, g2]
  exact ⟨rfl, rfl⟩
theorem flg_le (y : Bk) : 0 ≤ flg y ∧ flg y ≤ 3 := by
  obtain ⟨n, b, t, w⟩ := y
  cases b <;> cases t <;> simp [flg]
theorem im_take (x : NS) : (imI x).take x.bs.length = x.bs := by unfold imI; simp
theorem im_okBk {x : NS} {np : Nat} (N : NOk x np) (H : IOk x) {k : Nat} (hk : k < x.bk.length) : okBk (imI x) x.p x.bs.length k := by
  obtain ⟨y, hy⟩ : ∃ y, x.bk[k]? = some y := ⟨_, List.getElem?_eq_getElem hk⟩
  obtain ⟨e1, e2⟩ := fg_im hy
  have hn := N.nx y (List.mem_of_getElem? hy)
  have hl := block_le N hk
  have e3 : (k + 1) * (x.p * 68) = k * (x.p * 68) + x.p * 68 := Nat.succ_mul _ _
  have hA : ∀ o n v, o + n ≤ x.bs.length → allB (imI x) o n v = allB x.bs o n v := fun o n v h => by
    rw [← allB_take (W := x.bs.length) h, im_take]
  obtain ⟨h1, h2⟩ := H k y hy
  unfold okBk
  rw [e1, e2]
  obtain ⟨yn, yb, yt, yw⟩ := y
  simp only at hn h1 h2
  refine ⟨(flg_le _).2, hn.2, fun hf => ?_, fun hf => ?_⟩
  · have ht : yt = false := by cases yb <;> cases yt <;> first | rfl | (simp [flg] at hf)
    dsimp only
    rw [hA _ _ _ (by omega)]
    exact h2 ht
  · have ht : yt = true := by cases yb <;> cases yt <;> first | rfl | (simp [flg] at hf)
    dsimp only
    rw [hA _ _ _ (by omega)]
    exact h1 ht
theorem im_tail {x : NS} {np : Nat} (N : NOk x np) : BytF (imI x) x.bs.length := fun i v hi hv => by
  unfold imI at hv
  rw [List.getElem?_append_right hi] at hv
  have hm := List.mem_of_getElem? hv
  unfold tlI at hm
  obtain ⟨y, hy, hv⟩ := List.mem_flatMap.1 hm
  have hn := N.nx y (List.mem_of_mem_take hy)
  have hp := N.p2
  simp only [List.mem_cons, List.not_mem_nil, or_false] at hv
  rcases hv with rfl | rfl
  · have := flg_le y; omega
  · omega
/-- What a load makes of an image. -/
def nwS (x : NS) : NS := ⟨x.p, x.bs, x.bk.map nw, false, -1, -1, 0, 0, 0⟩
theorem ldBk_im {x : NS} {k : Nat} {y : Bk} (hy : x.bk[k]? = some y) : ldBk (imI x) x.bs.length k = nw y := by
  obtain ⟨e1, e2⟩ := fg_im hy
  unfold ldBk
  rw [e1, e2]
  obtain ⟨yn, yb, yt, yw⟩ := y
  cases yb <;> cases yt <;> rfl
theorem ld_im (x : NS) : ldS (imI x) x.bk.length x.p x.bs.length = nwS x := by
  unfold ldS nwS
  rw [im_take]
  congr 1
  apply List.ext_getElem?
  intro k
  by_cases hk : k < x.bk.length
  · obtain ⟨y, hy⟩ : ∃ y, x.bk[k]? = some y := ⟨_, List.getElem?_eq_getElem hk⟩
    rw [List.getElem?_map, hy, Option.map_some, ← ldBk_im hy]
    simp [bkL, hk]
  · rw [List.getElem?_eq_none (by rw [bkL_len]; omega), List.getElem?_eq_none (by rw [List.length_map]; omega)]
theorem nwS_sim {x : NS} (h1 : x.off = false) (h2 : x.cut = -1) (h3 : x.fail = -1) : Sim x (nwS x) :=
  ⟨rfl, rfl, h1.symm, h2.symm, h3.symm, by simp [nwS, nw]⟩
theorem nwS_ok {x : NS} {np : Nat} (N : NOk x np) : NOk (nwS x) np := by
  refine nok_of N ⟨rfl, rfl, by simp [nwS]⟩ (fun y hy => ?_) (fun y hy => ?_) (by simp [nwS]) (by simp [nwS]) (by simp [nwS]) (by simp [nwS]) (by simp [nwS]) (by simp [nwS]) (by simp [nwS]) (by simp [nwS]) (by simp [nwS]) (by simp [nwS])
  · obtain ⟨z, hz, rfl⟩ := List.mem_map.1 hy
    exact N.nx z hz
  · obtain ⟨z, hz, rfl⟩ := List.mem_map.1 hy
    exact ⟨Int.le_refl _, Int.le_refl _⟩
theorem flg_ld {I : List Int} {W k : Nat} (h0 : 0 ≤ fgI I W k) (h3 : fgI I W k ≤ 3) : flg (ldBk I W k) = fgI I W k := by
  unfold ldBk
  generalize fgI I W k = f at *
  have : f = 0 ∨ f = 1 ∨ f = 2 ∨ f = 3 := by omega
  rcases this with rfl | rfl | rfl | rfl <;> rfl
theorem im_ld {I : List Int} {b p W : Nat} (hI : I.length = W + 2 * b) (hok : ∀ k, k < b → okBk I p W k) (hB : BytF I W) : imI (ldS I b p W) = I := by
  unfold imI ldS
  simp only [bkL_len]
  have key : tlI (bkL I W b b) b = I.drop W := by
    have hl := tlI_len (bkL I W b b) b (by rw [bkL_len]; exact Nat.le_refl _)
    apply List.ext_getElem?
    intro i
    by_cases hi : i < 2 * b
    · obtain ⟨k, hk⟩ : ∃ k, i = 2 * k ∨ i = 2 * k + 1 := ⟨i / 2, by omega⟩
      have hkb : k < b := by omega
      have hg : (bkL I W b b)[k]? = some (ldBk I W k) := by simp [bkL, hkb]
      obtain ⟨g1, g2⟩ := tlI_get hg b hkb (by rw [bkL_len]; exact Nat.le_refl _)
      have f1 : I[W + 2 * k]? = some (fgI I W k) := getD_get (by omega)
      have f2 : I[W + 2 * k + 1]? = some (nxI I W k) := getD_get (by omega)
      rw [List.getElem?_drop]
      rcases hk with rfl | rfl
      · rw [g1, f1, flg_ld (hB _ _ (by omega) f1).1 (hok k hkb).1]
      · rw [g2, ← Nat.add_assoc, f2]; rfl
    · rw [List.getElem?_eq_none (by omega), List.getElem?_eq_none (by rw [List.length_drop]; omega)]
  rw [key, List.take_append_drop]
end Go.Proofs.Ytmkolibmadbenaa.Am

