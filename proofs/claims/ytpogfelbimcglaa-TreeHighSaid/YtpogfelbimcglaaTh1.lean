/- The fewest nodes of a height, numbers that differ. Conditions: those of each theorem. -/
import Derived.Test.YtpogfelbimcglaaTs1
namespace Go.Proofs.Ytpogfelbimcglaa.Am
open Go.Proofs
set_option maxRecDepth 1000000
set_option maxHeartbeats 4000000
set_option linter.unusedSimpArgs false
set_option linter.unusedVariables false
theorem gcd_all : ∀ s : Nat, s < 1001 → 0 < s → Nat.gcd 1009 s = 1 := by decide +kernel
theorem far_keys {i j s : Nat} (h : j < i) (hi : i < 301) (h1 : 0 < s) (h2 : s ≤ 1000) : (i * s) % 1009 ≠ (j * s) % 1009 := by
  intro e
  have hg : Nat.Coprime 1009 s := gcd_all s (by omega) h1
  have hd : 1009 ∣ (i - j) * s := by
    rw [Nat.sub_mul]
    exact Nat.dvd_of_mod_eq_zero (Nat.sub_mod_eq_zero_of_mod_eq e)
  have := hg.dvd_of_dvd_mul_right hd
  have := Nat.le_of_dvd (by omega) this
  omega
/-- The fewest nodes of a height. -/
def fewest : Nat → Nat
  | 0 => 0
  | 1 => 1
  | h + 2 => fewest (h + 1) + fewest h + 1
theorem fewest_mono : ∀ h, fewest h ≤ fewest (h + 1)
  | 0 => by simp [fewest]
  | 1 => by simp [fewest]
  | h + 2 => by have := fewest_mono h; have := fewest_mono (h + 1); simp only [fewest] at *; omega
theorem fewest_le {a b : Nat} (h : a ≤ b) : fewest a ≤ fewest b := by
  induction h with
  | refl => exact Nat.le_refl _
  | step _ ih => exact Nat.le_trans ih (fewest_mono _)
theorem avl_fewest : ∀ T : Tr, Avl T → fewest T.ht ≤ T.ids.length
  | .lf, _ => Nat.le_refl _
  | .nd id l a b c r, ⟨h1, h2, h3, h4⟩ => by
    have i1 := avl_fewest l h3
    have i2 := avl_fewest r h4
    simp only [Tr.ht, ids_nd, List.length_append, List.length_cons]
    rcases Nat.le_total l.ht r.ht with h | h
    · rw [Nat.max_eq_right h]
      cases hr : r.ht with
      | zero => simp [fewest]; omega
      | succ m =>
        have : fewest m ≤ fewest l.ht := fewest_le (by omega)
        rw [hr] at i2
        rw [show 1 + (m + 1) = m + 2 by omega]; simp only [fewest]; omega
    · rw [Nat.max_eq_left h]
      cases hr : l.ht with
      | zero => simp [fewest]; omega
      | succ m =>
        have : fewest m ≤ fewest r.ht := fewest_le (by omega)
        rw [hr] at i1
        rw [show 1 + (m + 1) = m + 2 by omega]; simp only [fewest]; omega
theorem high_le {T : Tr} (h : Avl T) (hn : T.ids.length ≤ 300) : T.ht ≤ 11 := by
  rcases Nat.lt_or_ge 11 T.ht with h1 | h1
  · have h2 := avl_fewest T h
    have h3 := fewest_le (a := 12) (b := T.ht) h1
    have h4 : fewest 12 = 376 := rfl
    omega
  · exact h1
def leastV : List V := [.i .i64 0, .i .i64 1, .i .i64 2, .i .i64 4, .i .i64 7, .i .i64 12, .i .i64 20, .i .i64 33, .i .i64 54, .i .i64 88, .i .i64 143, .i .i64 232, .i .i64 376]
theorem least_get {h : Nat} (hh : h ≤ 11) : leastV[h]? = some (.i .i64 (fewest h : Nat)) := by
  have : ∀ h : Nat, h < 12 → leastV[h]? = some (.i .i64 (fewest h : Nat)) := by
    intro h hh
    match h with
    | 0 => rfl
    | 1 => rfl
    | 2 => rfl
    | 3 => rfl
    | 4 => rfl
    | 5 => rfl
    | 6 => rfl
    | 7 => rfl
    | 8 => rfl
    | 9 => rfl
    | 10 => rfl
    | 11 => rfl
    | n + 12 => omega
  exact this h (by omega)
/-- The greatest height so far. -/
def mxH (a : Nat) (l : List Vw) : Nat := l.foldl (fun h v => max h v.h.toNat) a
theorem mxH_app (a : Nat) (l r : List Vw) : mxH a (l ++ r) = mxH (mxH a l) r := List.foldl_append
theorem mxH_views : ∀ (T : Tr) (a : Nat), mxH a (viewsT T) = max a T.ht
  | .lf, a => by simp [viewsT, mxH, Tr.ht]
  | .nd id l x y z r, a => by
    have e : mxH (mxH a (viewsT l)) (⟨id, l.id, r.id, 1 + ((max l.ht r.ht : Nat) : Int), x, y, z⟩ :: viewsT r) = mxH (max (mxH a (viewsT l)) (1 + max l.ht r.ht)) (viewsT r) := by
      simp only [mxH, List.foldl_cons]
      congr 2
    rw [viewsT, mxH_app, e, mxH_views l, mxH_views r]; simp only [Tr.ht]
    omega
theorem views_keys : ∀ T : Tr, (viewsT T).map Vw.a = T.ino.map Nd.a
  | .lf => rfl
  | .nd id l x y z r => by simp only [viewsT, Tr.ino, List.map_append, List.map_cons, views_keys l, views_keys r]
theorem views_h : ∀ T : Tr, ∀ v ∈ viewsT T, 0 ≤ v.h ∧ v.h ≤ T.ht
  | .lf, v, h => by simp [viewsT] at h
  | .nd id l x y z r, v, h => by
    simp only [viewsT, List.mem_append, List.mem_cons] at h
    simp only [Tr.ht]
    rcases h with h | rfl | h
    · have := views_h l v h; omega
    · simp only; omega
    · have := views_h r v h; omega
theorem mxH_le {l : List Vw} {m : Nat} (h : ∀ v ∈ l, v.h ≤ m) : ∀ {a : Nat}, a ≤ m → mxH a l ≤ m := by
  induction l with
  | nil => intro a ha; exact ha
  | cons v l ih =>
    intro a ha
    have := h v (by simp)
    exact ih (fun u hu => h u (by simp [hu])) (by show max a v.h.toNat ≤ m; omega)
end Go.Proofs.Ytpogfelbimcglaa.Am

