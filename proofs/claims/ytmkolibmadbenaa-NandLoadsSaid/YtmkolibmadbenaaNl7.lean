/- Functions of the flash, walked. Conditions: those of each theorem. -/
import Derived.Test.YtmkolibmadbenaaAm5
import Derived.Test.YtmkolibmadbenaaNl6
import Derived.Test.YtmkolibmadbenaaNp5
namespace Go.Proofs.Ytmkolibmadbenaa.Am
open Go.Proofs
set_option maxRecDepth 1000000
set_option maxHeartbeats 4000000
set_option linter.unusedSimpArgs false
set_option linter.unusedVariables false
/-- What a block's bytes are beyond what was begun. -/
def BOk (bs : List Int) (p k : Nat) (y : Bk) : Prop :=
  (y.torn = true → y.next = 0 ∧ allB bs (k * (p * 68)) (p * 68) 0 = true) ∧ (y.torn = false → allB bs (k * (p * 68) + y.next.toNat * 68) ((p - y.next.toNat) * 68) 255 = true)
def IOk (x : NS) : Prop := ∀ k y, x.bk[k]? = some y → BOk x.bs x.p k y
theorem over2_get1 {xs ys : List Int} {o i : Nat} (h : o + ys.length ≤ xs.length) (hi : i < o) : (over2 xs o ys)[i]? = xs[i]? := by
  unfold over2
  rw [List.append_assoc, List.getElem?_append_left (by rw [List.length_take]; omega), List.getElem?_take, if_pos hi]
theorem over2_get2 {xs ys : List Int} {o i : Nat} (h : o + ys.length ≤ xs.length) (h1 : o ≤ i) (h2 : i < o + ys.length) : (over2 xs o ys)[i]? = ys[i - o]? := by
  unfold over2
  have hl : (xs.take o).length = o := by rw [List.length_take]; omega
  rw [List.append_assoc, List.getElem?_append_right (by omega), hl, List.getElem?_append_left (by omega)]
theorem over2_get3 {xs ys : List Int} {o i : Nat} (h : o + ys.length ≤ xs.length) (h1 : o + ys.length ≤ i) : (over2 xs o ys)[i]? = xs[i]? := by
  unfold over2
  have hl : (xs.take o).length = o := by rw [List.length_take]; omega
  rw [List.append_assoc, List.getElem?_append_right (by omega), hl, List.getElem?_append_right (by omega), List.getElem?_drop]
  congr 1; omega
theorem allB_far {xs ys : List Int} {o a n : Nat} {v : Int} (h : o + ys.length ≤ xs.length) (hn : a + n ≤ xs.length) (hd : a + n ≤ o ∨ o + ys.length ≤ a) : allB (over2 xs o ys) a n v = allB xs a n v := by
  have hl : (over2 xs o ys).length = xs.length := over2_len h
  refine Bool.eq_iff_iff.2 ?_
  rw [allB_iff (by omega), allB_iff hn]
  refine forall_congr' fun j => imp_congr_right fun hj => ?_
  rcases hd with hd | hd
  · rw [over2_get1 h (by omega)]
  · rw [over2_get3 h (by omega)]
theorem allB_same {xs : List Int} {o w : Nat} {v : Int} (h : o + w ≤ xs.length) : allB (over2 xs o (List.replicate w v)) o w v = true := by
  rw [allB_iff (by rw [over2_len (by rw [List.length_replicate]; exact h)]; exact h)]
  intro j hj
  rw [over2_get2 (by rw [List.length_replicate]; exact h) (by omega) (by rw [List.length_replicate]; omega), List.getElem?_replicate, if_pos (by omega)]
/-- Other blocks' bytes being changed. -/
theorem BOk_far {bs ys : List Int} {p k o n : Nat} {y : Bk} (H : BOk bs p k y) (hy : 0 ≤ y.next ∧ y.next ≤ p) (h : o + ys.length ≤ bs.length) (hk : (k + 1) * (p * 68) ≤ bs.length) (hn : n ≠ k) (h1 : n * (p * 68) ≤ o) (h2 : o + ys.length ≤ (n + 1) * (p * 68)) : BOk (over2 bs o ys) p k y := by
  have e1 : (k + 1) * (p * 68) = k * (p * 68) + p * 68 := Nat.succ_mul _ _
  have hd : (k + 1) * (p * 68) ≤ o ∨ o + ys.length ≤ k * (p * 68) := by
    by_cases hkn : k < n
    · left; exact Nat.le_trans (Nat.mul_le_mul hkn (Nat.le_refl _)) h1
    · right; exact Nat.le_trans h2 (Nat.mul_le_mul (by omega) (Nat.le_refl _))
  have e2 : y.next.toNat * 68 + (p - y.next.toNat) * 68 = p * 68 := by omega
  refine ⟨fun ht => ⟨(H.1 ht).1, ?_⟩, fun ht => ?_⟩
  · rw [allB_far h (by omega) (by omega)]; exact (H.1 ht).2
  · rw [allB_far h (by omega) (by omega)]; exact H.2 ht
theorem block_le {x : NS} {np : Nat} (H : NOk x np) {k : Nat} (hk : k < x.bk.length) : (k + 1) * (x.p * 68) ≤ x.bs.length := by
  obtain ⟨h1, _⟩ := block_in H hk
  have e : (k + 1) * (x.p * 68) = (k * x.p + x.p) * 68 := by rw [← Nat.mul_assoc, Nat.succ_mul]
  omega
theorem IOk_keep {x x' : NS} (h1 : x'.p = x.p) (h2 : x'.bs = x.bs) (h3 : ∀ (k : Nat) y, x'.bk[k]? = some y → ∃ z, x.bk[k]? = some z ∧ nw y = nw z) (H : IOk x) : IOk x' := fun k y hy => by
  obtain ⟨z, hz, e⟩ := h3 k y hy
  obtain ⟨e1, e2, e3⟩ := nw_eq e
  have := H k z hz
  unfold BOk at this ⊢
  rw [h1, h2, e1, e3]; exact this
theorem IOk_same {x x' : NS} (h1 : x'.p = x.p) (h2 : x'.bs = x.bs) (h3 : x'.bk = x.bk) (H : IOk x) : IOk x' := IOk_keep h1 h2 (fun k y hy => ⟨y, by rw [← h3]; exact hy, rfl⟩) H
/-- One block and its bytes being changed. -/
theorem IOk_set {x x' : NS} {np n o : Nat} {ys : List Int} {z : Bk} (N : NOk x np) (hp : x'.p = x.p) (hbs : x'.bs = over2 x.bs o ys) (hbk : x'.bk = x.bk.set n z) (hn : n < x.bk.length) (h1 : n * (x.p * 68) ≤ o) (h2 : o + ys.length ≤ (n + 1) * (x.p * 68)) (hz : BOk (over2 x.bs o ys) x.p n z) (H : IOk x) : IOk x' := fun k y hy => by
  have hb := block_le N hn
  rw [hbk, List.getElem?_set] at hy
  rw [hp, hbs]
  by_cases hk : n = k
  · subst hk
    rw [if_pos rfl, if_pos hn] at hy
    obtain rfl := Option.some.inj hy
    exact hz
  · rw [if_neg hk] at hy
    exact BOk_far (H k y hy) (N.nx y (List.mem_of_getElem? hy)) (by omega) (block_le N (List.getElem?_eq_some_iff.1 hy).1) hk h1 h2
theorem prK_IOk {x : NS} {np page b r : Nat} {D : List Int} {y : Bk} (N : NOk x np) (hD : 68 ≤ D.length) (hy : x.bk[b]? = some y) (ht : y.torn = false) (hn : y.next = r) (hr : r < x.p) (hpg : page = b * x.p + r) (H : IOk x) (k : Nat) (hk : k ≤ 17) (hk0 : 0 < k) (bad : Bool) :
    IOk { prK x page b r D y k with bk := x.bk.set b { y with next := (r : Int) + 1, bad := bad } } := by
  have hb := (List.getElem?_eq_some_iff.1 hy).1
  have hl := block_le N hb
  have e1 : (b + 1) * (x.p * 68) = b * (x.p * 68) + x.p * 68 := Nat.succ_mul _ _
  have e2 : b * (x.p * 68) = b * x.p * 68 := (Nat.mul_assoc _ _ _).symm
  have hD2 : (D.take (k * 4)).length = k * 4 := by rw [List.length_take]; omega
  refine IOk_set (n := b) (o := page * 68) (ys := D.take (k * 4)) N rfl rfl rfl hb (by omega) (by rw [hD2]; omega) ⟨fun h => ?_, fun _ => ?_⟩ H
  · simp only [ht] at h; cases h
  · have h2 := (H b y hy).2 ht
    rw [hn, Int.toNat_natCast] at h2
    have e3 : ((r : Int) + 1).toNat = r + 1 := by omega
    simp only [e3]
    rw [allB_far (by rw [hD2]; omega) (by omega) (.inr (by rw [hD2]; omega))]
    rw [allB_iff (by omega)] at h2 ⊢
    intro j hj
    have := h2 (68 + j) (by omega)
    rw [show b * (x.p * 68) + (r + 1) * 68 + j = b * (x.p * 68) + r * 68 + (68 + j) by omega]; exact this
end Go.Proofs.Ytmkolibmadbenaa.Am

