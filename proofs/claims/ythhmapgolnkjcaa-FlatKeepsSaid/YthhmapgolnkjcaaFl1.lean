/- Runs of a table, its runs counted, a table's copy, walked. Conditions: those of each theorem. -/
import Derived.Test.YthhmapgolnkjcaaAm5
import Derived.Test.YthhmapgolnkjcaaTb
namespace Go.Proofs.Ythhmapgolnkjcaa.Am
open Go.Proofs
set_option maxRecDepth 1000000
set_option maxHeartbeats 4000000
set_option linter.unusedSimpArgs false
set_option linter.unusedVariables false
structure Run where
  lba : Int
  len : Int
  phys : Int
def rwRun : Rw Run := ⟨3, fun x => [.i .i64 x.lba, .i .i64 x.len, .i .i64 x.phys], fun _ => rfl, fun _ => by simp [okL, okV]⟩
theorem Run_len (xs : List Run) : (cellsR rwRun xs).length = xs.length * 3 := cellsR_len rwRun xs
theorem Run_set {xs : List Run} {x : Run} {i : Nat} (h : xs[i]? = some x) (lba_ : Int) (len_ : Int) (phys_ : Int) : setL (cellsR rwRun xs) (i * 3) [.i .i64 lba_, .i .i64 len_, .i .i64 phys_] = cellsR rwRun (xs.set i ⟨lba_, len_, phys_⟩) := cellsR_set0 (R := rwRun) h (Nat.le_refl _) rfl
theorem Run_app1 {xs : List Run} {lba_ : Int} {len_ : Int} {phys_ : Int} : cellsR rwRun xs ++ [.i .i64 lba_, .i .i64 len_, .i .i64 phys_] = cellsR rwRun (xs ++ [⟨lba_, len_, phys_⟩]) := by rw [cellsR_app]; simp [cellsR, rwRun]
theorem Run_reps {lba_ : Int} {len_ : Int} {phys_ : Int} (n : Nat) : reps [.i .i64 lba_, .i .i64 len_, .i .i64 phys_] n = cellsR rwRun (List.replicate n ⟨lba_, len_, phys_⟩) := cellsR_reps rwRun ⟨lba_, len_, phys_⟩ n
theorem Run_set_lba {xs : List Run} {x : Run} {i : Nat} (h : xs[i]? = some x) (v_ : Int) : setL (cellsR rwRun xs) (i * 3) [.i .i64 v_] = cellsR rwRun (xs.set i { x with lba := v_ }) := cellsR_set0 (R := rwRun) h (Nat.le_of_ble_eq_true rfl) rfl
theorem Run_set_len {xs : List Run} {x : Run} {i : Nat} (h : xs[i]? = some x) (v_ : Int) : setL (cellsR rwRun xs) (i * 3 + 1) [.i .i64 v_] = cellsR rwRun (xs.set i { x with len := v_ }) := cellsR_set (R := rwRun) h (Nat.le_of_ble_eq_true rfl) rfl
theorem Run_set_phys {xs : List Run} {x : Run} {i : Nat} (h : xs[i]? = some x) (v_ : Int) : setL (cellsR rwRun xs) (i * 3 + 2) [.i .i64 v_] = cellsR rwRun (xs.set i { x with phys := v_ }) := cellsR_set (R := rwRun) h (Nat.le_of_ble_eq_true rfl) rfl
def mapM (t : List Int) (most : Int) (q : Bool) : List (Option Blk) := [some ⟨cellsR (rwI .i64) t, 3, true⟩, some ⟨[.i .i64 most, .sl (some (0,0)) t.length t.length q], 59, true⟩]
def roT (t : List Int) : List (Option Blk) := [some ⟨cellsR (rwI .i64) t, 3, false⟩]
def gOn (t : List Int) (i : Nat) : Bool := decide (0 < i ∧ 0 ≤ t.getD i 0 ∧ 0 ≤ t.getD (i - 1) 0 ∧ t.getD i 0 = t.getD (i - 1) 0 + 1)
def Bnd (t : List Int) : Prop := ∀ x ∈ t, -1 ≤ x ∧ x ≤ 1100000
theorem getD_of {t : List Int} {i : Nat} {x : Int} (h : t[i]? = some x) : t.getD i 0 = x := by rw [List.getD_eq_getElem?_getD, h]; rfl
theorem goesOn_walk (t : List Int) (i c : Nat) (q : Bool) (hi : i < t.length) (hl : t.length ≤ 1000) (hb : Bnd t) : FM Try.prog 51 [.sl (some (0,0)) t.length c q, .i .i64 i] (roT t) (fun v M' => v = .b (gOn t i) ∧ M' = roT t) := by
  obtain ⟨x, hx⟩ : ∃ x, t[i]? = some x := ⟨_, List.getElem?_eq_getElem hi⟩
  have bx := hb x (List.mem_of_getElem? hx)
  have gx := getD_of hx
  refine FM.pbody (tb := tb) (fn := Try.f51) rfl rfl ?_
  simp only [argS, Nat.reduceAdd, roT, List.length_cons, List.length_nil]
  by_cases h0 : i = 0
  · refine WS.pseq rfl ?_
    refine WS.pregion rfl ?_
    refine WS.po (tb := tb) rfl rfl rfl rfl rfl ?_
    refine WS.pend rfl ?_
    refine WS.pseq rfl ?_
    refine WS.pdraw (tb := tb) (by kernel_rfl) rfl (by kernel_rfl) (by kernel_rfl) ?_
    refine WD.p (tb := tb) rfl rfl rfl rfl rfl ?_
    refine WD.pDF (tb := tb) rfl rfl rfl rfl rfl (by omega) ?_
    refine WD.p (tb := tb) rfl rfl rfl rfl rfl ?_
    refine WD.no rfl rfl rfl rfl ?_
    refine WD.no rfl rfl rfl rfl ?_
    refine WD.no rfl rfl rfl rfl ?_
    refine WD.no1 rfl rfl rfl rfl ?_
    refine WD.no rfl rfl rfl rfl ?_
    refine WD.p (tb := tb) rfl rfl rfl rfl rfl ?_
    refine WD.p (tb := tb) rfl rfl rfl rfl rfl ?_
    refine WD.no rfl rfl rfl rfl ?_
    refine WD.no rfl rfl rfl rfl ?_
    refine WD.no rfl rfl rfl rfl ?_
    refine WD.no rfl rfl rfl rfl ?_
    refine WD.no1 rfl rfl rfl rfl ?_
    refine WD.no rfl rfl rfl rfl ?_
    refine WD.p (tb := tb) rfl rfl rfl rfl rfl ?_
    refine WD.p (tb := tb) rfl rfl rfl rfl rfl ?_
    refine WD.no rfl rfl rfl rfl ?_
    refine WD.no rfl rfl rfl rfl ?_
    refine WD.no rfl rfl rfl rfl ?_
    refine WD.no1 rfl rfl rfl rfl ?_
    refine WD.no rfl rfl rfl rfl ?_
    refine WD.no rfl rfl rfl rfl ?_
    refine WD.no rfl rfl rfl rfl ?_
    refine WD.no rfl rfl rfl rfl ?_
    refine WD.no1 rfl rfl rfl rfl ?_
    refine WD.no rfl rfl rfl rfl ?_
    refine WD.no rfl rfl rfl rfl ?_
    refine WD.p (tb := tb) rfl rfl rfl rfl rfl ?_
    refine WD.p (tb := tb) rfl rfl rfl rfl rfl ?_
    refine WD.fin rfl ?_
    refine WS.pret rfl ⟨.inr rfl, _, rfl, ?_⟩
    exact ⟨_, rfl, by simp [gOn, h0], rfl⟩
  · obtain ⟨y, hy⟩ : ∃ y, t[i - 1]? = some y := ⟨_, List.getElem?_eq_getElem (by omega)⟩
    have by_ := hb y (List.mem_of_getElem? hy)
    have gy := getD_of hy
    have e1 : (i : Int) - 1 = ((i - 1 : Nat) : Int) := by omega
    have e : gOn t i = decide (0 < i ∧ 0 ≤ x ∧ 0 ≤ y ∧ x = y + 1) := by rw [gOn, gx, gy]
    focus
      refine WS.pseq rfl ?_
      refine WS.pregion rfl ?_
      refine WS.po (tb := tb) rfl rfl rfl rfl rfl ?_
      refine WS.pend rfl ?_
      refine WS.pseq rfl ?_
      refine WS.pdraw (tb := tb) (by kernel_rfl) rfl (by kernel_rfl) (by kernel_rfl) ?_
      refine WD.p (tb := tb) rfl rfl rfl rfl rfl ?_
      refine WD.pDT (tb := tb) rfl rfl rfl rfl rfl (by omega) ?_
      refine WD.p (tb := tb) rfl rfl rfl rfl rfl ?_
      refine WD.p (tb := tb) rfl rfl rfl rfl rfl ?_
      refine WD.p (tb := tb) rfl rfl rfl rfl rfl ?_
      refine WD.pP (tb := tb) rfl rfl rfl rfl (evP_index rfl rfl rfl rfl rfl rfl (by omega)) (by simp only [Nat.zero_add, Nat.add_zero, Nat.reduceAdd, Nat.reduceMul, Nat.add_assoc, Nat.mul_one]; exact rfl) ?_
      refine WD.r (tb := tb) rfl rfl rfl rfl (evQ_R rfl (evR_load rfl rfl rfl rfl (cellsI_get hx))) ?_
      refine WD.pDS (tb := tb) rfl rfl rfl rfl rfl (fun hb__ => ?_) (fun hb__ => ?_)
      refine WD.p (tb := tb) rfl rfl rfl rfl rfl ?_
      refine WD.p (tb := tb) rfl rfl rfl rfl rfl ?_
      refine WD.p (tb := tb) rfl rfl rfl rfl rfl ?_
      refine WD.p (tb := tb) rfl rfl rfl rfl rfl ?_
      refine WD.pW (tb := tb) rfl rfl rfl rfl rfl (by simp only [lo]; omega) (by simp only [Am.hi]; omega) ?_
      refine WD.pP (tb := tb) rfl rfl rfl rfl (evP_index rfl rfl rfl rfl rfl (by assumption) (by omega)) (by simp only [List.getElem_toArray, List.getElem_cons_zero, List.getElem_cons_succ, Nat.zero_add, Nat.add_zero, Nat.reduceAdd, Nat.reduceMul, Nat.add_assoc, Nat.mul_one, Int.toNat_natCast, Int.reduceToNat, Int.toNat_zero, Nat.zero_mul]; exact rfl) ?_
      refine WD.r (tb := tb) rfl rfl rfl rfl (evQ_R rfl (evR_load rfl rfl rfl rfl (cellsI_get hy))) ?_
      refine WD.pDS (tb := tb) rfl rfl rfl rfl rfl (fun hb__ => ?_) (fun hb__ => ?_)
      refine WD.p (tb := tb) rfl rfl rfl rfl rfl ?_
      refine WD.p (tb := tb) rfl rfl rfl rfl rfl ?_
      refine WD.p (tb := tb) rfl rfl rfl rfl rfl ?_
      refine WD.p (tb := tb) rfl rfl rfl rfl rfl ?_
      refine WD.pP (tb := tb) rfl rfl rfl rfl (evP_index rfl rfl rfl rfl rfl rfl (by omega)) (by simp only [Nat.zero_add, Nat.add_zero, Nat.reduceAdd, Nat.reduceMul, Nat.add_assoc, Nat.mul_one]; exact rfl) ?_
      refine WD.r (tb := tb) rfl rfl rfl rfl (evQ_R rfl (evR_load rfl rfl rfl rfl (cellsI_get hx))) ?_
      refine WD.p (tb := tb) rfl rfl rfl rfl rfl ?_
      refine WD.p (tb := tb) rfl rfl rfl rfl rfl ?_
      refine WD.pW (tb := tb) rfl rfl rfl rfl rfl (by simp only [lo]; omega) (by simp only [Am.hi]; omega) ?_
      refine WD.pP (tb := tb) rfl rfl rfl rfl (evP_index rfl rfl rfl rfl rfl (by assumption) (by omega)) (by simp only [List.getElem_toArray, List.getElem_cons_zero, List.getElem_cons_succ, Nat.zero_add, Nat.add_zero, Nat.reduceAdd, Nat.reduceMul, Nat.add_assoc, Nat.mul_one, Int.toNat_natCast, Int.reduceToNat, Int.toNat_zero, Nat.zero_mul]; exact rfl) ?_
      refine WD.r (tb := tb) rfl rfl rfl rfl (evQ_R rfl (evR_load rfl rfl rfl rfl (cellsI_get hy))) ?_
      refine WD.pW (tb := tb) rfl rfl rfl rfl rfl (by simp only [lo]; omega) (by simp only [Am.hi]; omega) ?_
      refine WD.pDS (tb := tb) rfl rfl rfl rfl rfl (fun hb__ => ?_) (fun hb__ => ?_)
      refine WD.p (tb := tb) rfl rfl rfl rfl rfl ?_
      refine WD.p (tb := tb) rfl rfl rfl rfl rfl ?_
      refine WD.fin rfl ?_
      refine WS.pret rfl ⟨.inr rfl, _, rfl, ?_⟩
      rotate_left
      refine WD.p (tb := tb) rfl rfl rfl rfl rfl ?_
      refine WD.p (tb := tb) rfl rfl rfl rfl rfl ?_
      refine WD.fin rfl ?_
      refine WS.pret rfl ⟨.inr rfl, _, rfl, ?_⟩
      rotate_left
      refine WD.p (tb := tb) rfl rfl rfl rfl rfl ?_
      refine WD.p (tb := tb) rfl rfl rfl rfl rfl ?_
      refine WD.no rfl rfl rfl rfl ?_
      refine WD.no rfl rfl rfl rfl ?_
      refine WD.no rfl rfl rfl rfl ?_
      refine WD.no1 rfl rfl rfl rfl ?_
      refine WD.no rfl rfl rfl rfl ?_
      refine WD.no rfl rfl rfl rfl ?_
      refine WD.no rfl rfl rfl rfl ?_
      refine WD.no rfl rfl rfl rfl ?_
      refine WD.no1 rfl rfl rfl rfl ?_
      refine WD.no rfl rfl rfl rfl ?_
      refine WD.no rfl rfl rfl rfl ?_
      refine WD.p (tb := tb) rfl rfl rfl rfl rfl ?_
      refine WD.p (tb := tb) rfl rfl rfl rfl rfl ?_
      refine WD.fin rfl ?_
      refine WS.pret rfl ⟨.inr rfl, _, rfl, ?_⟩
      rotate_left
      refine WD.p (tb := tb) rfl rfl rfl rfl rfl ?_
      refine WD.p (tb := tb) rfl rfl rfl rfl rfl ?_
      refine WD.no rfl rfl rfl rfl ?_
      refine WD.no rfl rfl rfl rfl ?_
      refine WD.no rfl rfl rfl rfl ?_
      refine WD.no rfl rfl rfl rfl ?_
      refine WD.no1 rfl rfl rfl rfl ?_
      refine WD.no rfl rfl rfl rfl ?_
      refine WD.p (tb := tb) rfl rfl rfl rfl rfl ?_
      refine WD.p (tb := tb) rfl rfl rfl rfl rfl ?_
      refine WD.no rfl rfl rfl rfl ?_
      refine WD.no rfl rfl rfl rfl ?_
      refine WD.no rfl rfl rfl rfl ?_
      refine WD.no1 rfl rfl rfl rfl ?_
      refine WD.no rfl rfl rfl rfl ?_
      refine WD.no rfl rfl rfl rfl ?_
      refine WD.no rfl rfl rfl rfl ?_
      refine WD.no rfl rfl rfl rfl ?_
      refine WD.no1 rfl rfl rfl rfl ?_
      refine WD.no rfl rfl rfl rfl ?_
      refine WD.no rfl rfl rfl rfl ?_
      refine WD.p (tb := tb) rfl rfl rfl rfl rfl ?_
      refine WD.p (tb := tb) rfl rfl rfl rfl rfl ?_
      refine WD.fin rfl ?_
      refine WS.pret rfl ⟨.inr rfl, _, rfl, ?_⟩
      rotate_left
    all_goals exact ⟨_, rfl, by rw [e]; first | rw [decide_eq_true (by omega)] | rw [decide_eq_false (by omega)], rfl⟩
def bump (l : List Run) : List Run := match l[l.length - 1]? with
  | none => l
  | some r => l.set (l.length - 1) { r with len := r.len + 1 }
def runsN (t : List Int) : Nat → List Run
  | 0 => []
  | i + 1 => if t.getD i 0 < 0 then runsN t i else if gOn t i = true then bump (runsN t i) else runsN t i ++ [⟨i, 1, t.getD i 0⟩]
theorem bump_len (l : List Run) : (bump l).length = l.length := by unfold bump; split <;> simp
theorem runsN_le (t : List Int) : ∀ i, (runsN t i).length ≤ i
  | 0 => by simp [runsN]
  | i + 1 => by
    have := runsN_le t i
    simp only [runsN]
    split
    · omega
    · split
      · rw [bump_len]; omega
      · simp; omega
theorem runsN_ne (t : List Int) (i : Nat) (h : 0 ≤ t.getD i 0) : runsN t (i + 1) ≠ [] := fun e => by
  have hl := congrArg List.length e
  simp only [runsN] at hl
  rw [if_neg (by omega)] at hl
  split at hl
  · next hg =>
    rw [bump_len] at hl
    simp only [gOn, decide_eq_true_eq] at hg
    obtain ⟨j, rfl⟩ : ∃ j, i = j + 1 := ⟨i - 1, by omega⟩
    exact runsN_ne t j (by simpa using hg.2.2.1) (List.length_eq_zero_iff.1 (by simpa using hl))
  · simp at hl
theorem mem_bump {l : List Run} {r : Run} (h : r ∈ bump l) : r ∈ l ∨ ∃ s ∈ l, r = { s with len := s.len + 1 } := by
  unfold bump at h
  split at h
  · exact .inl h
  · next s hs =>
    rcases List.mem_or_eq_of_mem_set h with h | h
    · exact .inl h
    · exact .inr ⟨s, List.mem_of_getElem? hs, h⟩
theorem runsN_lens (t : List Int) : ∀ i, ∀ r ∈ runsN t i, 1 ≤ r.len ∧ r.len ≤ i
  | 0, r, h => by simp [runsN] at h
  | i + 1, r, h => by
    have ih := runsN_lens t i
    simp only [runsN] at h
    split at h
    · have := ih r h; omega
    · split at h
      · rcases mem_bump h with h | ⟨s, h1, rfl⟩
        · have := ih r h; omega
        · have := ih s h1; simp only; omega
      · rcases List.mem_append.1 h with h | h
        · have := ih r h; omega
        · simp only [List.mem_singleton] at h; subst h; simp only; omega
theorem count_walk (t : List Int) (c : Nat) (q : Bool) (hl : t.length ≤ 1000) (hb : Bnd t) : FM Try.prog 36 [.sl (some (0,0)) t.length c q] (roT t) (fun v M' => v = .i .i64 (runsN t t.length).length ∧ M' = roT t) := by
  refine FM.pbody (tb := tb) (fn := Try.f36) rfl rfl ?_
  simp only [argS, Nat.reduceAdd, roT, List.length_cons, List.length_nil]
  refine WS.pseq rfl ?_
  refine WS.pregion rfl ?_
  refine WS.po (tb := tb) rfl rfl rfl rfl rfl ?_
  refine WS.pend rfl ?_
  refine WS.pseq rfl ?_
  refine WS.pregion rfl ?_
  refine WS.po (tb := tb) rfl rfl rfl rfl rfl ?_
  refine WS.pend rfl ?_
  refine WS.pseq rfl ?_
  refine WS.pseq rfl ?_
  refine WS.pregion rfl ?_
  refine WS.po (tb := tb) rfl rfl rfl rfl rfl ?_
  refine WS.po (tb := tb) rfl rfl rfl rfl rfl ?_
  refine WS.po (tb := tb) rfl rfl rfl rfl rfl ?_
  refine WS.pend rfl ?_
  refine WS.pblock rfl ?_
  refine WS.ploopI (σ := Nat) (τ := Unit) (fun i => [(0, .sl (some (0,0)) t.length c q), (6, .sl (some (0,0)) t.length c q), (7, .i .i64 t.length), (8, .i .i64 i), (3, .i .i64 (runsN t i).length)]) (fun _ => roT t) (fun i => i ≤ t.length) (fun i => t.length - i)
    (fun _ => [(3, .i .i64 (runsN t t.length).length)]) (fun _ => roT t) (fun _ => True) 0 [0] 0 rfl (Nat.zero_le _) ⟨rfl, rfl, (by simp [viewP, okL, okV, mapL, mapV, mem_get, mapL_cellsR, okL_cellsR, roT, runsN]), (by first | exact rfl | exact own2_dist rfl rfl), (by simp only [slotsP, okV, okL, mapV, mapL, and_true, true_and, List.length_cons, List.length_nil, List.length_append, List.length_map, Nat.reduceAdd, Nat.reduceLT, roT, runsN]; repeat' (first | exact rfl | refine ⟨?_, ?_⟩ | exact lk_m rfl (hmp _ rfl) | exact hok _ (Nat.le_of_ble_eq_true rfl) | exact lk_i rfl (by omega) | exact lk_sl rfl (by omega) (by omega) (by omega) | decide | omega))⟩ rfl ?_ ?_
  · intro i hi
    simp only [roT]
    by_cases h : i < t.length
    · obtain ⟨x, hx⟩ : ∃ x, t[i]? = some x := ⟨_, List.getElem?_eq_getElem h⟩
      have gx := getD_of hx
      have hle := runsN_le t i
      have G := goesOn_walk t i c q h hl hb
      by_cases h1 : x < 0
      · have e : (runsN t (i + 1)).length = (runsN t i).length := by simp only [runsN]; rw [gx, if_pos h1]
        refine WS.pseq rfl ?_
        refine WS.pregion rfl ?_
        refine WS.poDT (tb := tb) rfl rfl rfl rfl rfl (by omega) ?_
        refine WS.pend rfl ?_
        refine WS.pseq rfl ?_
        refine WS.pcondT rfl rfl ?_
        refine WS.pskip rfl ?_
        refine WS.pseq rfl ?_
        refine WS.pblock rfl ?_
        refine WS.pseq rfl ?_
        refine WS.pregion rfl ?_
        refine WS.po (tb := tb) rfl rfl rfl rfl rfl ?_
        refine WS.poP (tb := tb) rfl rfl rfl rfl (step_P (evP_index rfl rfl rfl rfl rfl rfl (by omega))) (by simp only [Nat.zero_add, Nat.add_zero, Nat.reduceAdd, Nat.reduceMul, Nat.add_assoc, Nat.mul_one]; exact rfl) ?_
        refine WS.po (tb := tb) rfl rfl rfl rfl (step_R rfl (evR_load rfl rfl rfl rfl (cellsI_get hx))) ?_
        refine WS.po (tb := tb) rfl rfl rfl rfl rfl ?_
        refine WS.po (tb := tb) rfl rfl rfl rfl rfl ?_
        refine WS.pend rfl ?_
        refine WS.pseq rfl ?_
        refine WS.pregion rfl ?_
        refine WS.po (tb := tb) rfl rfl rfl rfl rfl ?_
        refine WS.poDF (tb := tb) rfl rfl rfl rfl rfl (by omega) ?_
        refine WS.po (tb := tb) rfl rfl rfl rfl rfl ?_
        refine WS.pono rfl rfl rfl rfl ?_
        refine WS.pono rfl rfl rfl rfl ?_
        refine WS.pono rfl rfl rfl rfl ?_
        refine WS.pono rfl rfl rfl rfl ?_
        refine WS.po (tb := tb) rfl rfl rfl rfl rfl ?_
        refine WS.pend rfl ?_
        refine WS.pcondF rfl rfl ?_
        refine WS.pskip rfl ?_
        refine WS.pregion rfl ?_
        refine WS.poW (tb := tb) rfl rfl rfl rfl rfl (by simp only [lo]; omega) (by simp only [Am.hi]; omega) ?_
        refine WS.po (tb := tb) rfl rfl rfl rfl rfl ?_
        refine WS.pend rfl ?_
        refine WS.nil ?_
        exact ⟨i + 1, by omega, by omega, (SeenBy.seen (v := [0]) ⟨rfl, rfl, (by simp [viewP, okL, okV, mapL, mapV, mem_get, mapL_cellsR, okL_cellsR, roT, e]), (by first | exact rfl | exact own2_dist rfl rfl), (by simp only [slotsP, okV, okL, mapV, mapL, and_true, true_and, List.length_cons, List.length_nil, List.length_append, List.length_map, Nat.reduceAdd, Nat.reduceLT, roT, e]; repeat' (first | exact rfl | refine ⟨?_, ?_⟩ | exact lk_m rfl (hmp _ rfl) | exact hok _ (Nat.le_of_ble_eq_true rfl) | exact lk_i rfl (by omega) | exact lk_sl rfl (by omega) (by omega) (by omega) | decide | omega))⟩)⟩
      · cases hg : gOn t i with
        | true =>
          rw [hg] at G
          have e : (runsN t (i + 1)).length = (runsN t i).length := by simp only [runsN]; rw [gx, if_neg h1, if_pos hg, bump_len]
          refine WS.pseq rfl ?_
          refine WS.pregion rfl ?_
          refine WS.poDT (tb := tb) rfl rfl rfl rfl rfl (by omega) ?_
          refine WS.pend rfl ?_
          refine WS.pseq rfl ?_
          refine WS.pcondT rfl rfl ?_
          refine WS.pskip rfl ?_
          refine WS.pseq rfl ?_
          refine WS.pblock rfl ?_
          refine WS.pseq rfl ?_
          refine WS.pregion rfl ?_
          refine WS.po (tb := tb) rfl rfl rfl rfl rfl ?_
          refine WS.poP (tb := tb) rfl rfl rfl rfl (step_P (evP_index rfl rfl rfl rfl rfl rfl (by omega))) (by simp only [Nat.zero_add, Nat.add_zero, Nat.reduceAdd, Nat.reduceMul, Nat.add_assoc, Nat.mul_one]; exact rfl) ?_
          refine WS.po (tb := tb) rfl rfl rfl rfl (step_R rfl (evR_load rfl rfl rfl rfl (cellsI_get hx))) ?_
          refine WS.po (tb := tb) rfl rfl rfl rfl rfl ?_
          refine WS.po (tb := tb) rfl rfl rfl rfl rfl ?_
          refine WS.pend rfl ?_
          refine WS.pseq rfl ?_
          refine WS.pregion rfl ?_
          refine WS.po (tb := tb) rfl rfl rfl rfl rfl ?_
          refine WS.poDT (tb := tb) rfl rfl rfl rfl rfl (by omega) ?_
          refine WS.po (tb := tb) rfl rfl rfl rfl rfl ?_
          refine WS.po (tb := tb) rfl rfl rfl rfl rfl ?_
          refine WS.po (tb := tb) rfl rfl rfl rfl rfl ?_
          refine WS.pcallM (tb := tb) [0] G rfl rfl rfl rfl rfl (by (try simp only [mapL, mapV, List.getD_cons_zero, List.getD_cons_succ]); exact rfl) (by simp [okL, okV, roT]) rfl (by simp [embP, okL, okV, mapL, mapV, mem_next, mem_get, mem_ro, mapL_cellsR, okL_cellsR, roT]) rfl ?_; rintro _ _ ⟨rfl, rfl⟩ -; simp only [plugL, setsL, newsL, isOwn, ownB, over, mapL, mapV, List.getD_cons_zero, List.getD_cons_succ, List.set_cons_zero, List.set_cons_succ, List.length_cons, List.length_nil, Nat.reduceAdd, Nat.reduceLT, Nat.zero_add, if_true, if_false, Nat.reduceSub, reduceIte, List.map_cons, List.map_nil, List.append_nil, List.cons_append, List.nil_append, mapL_cellsR, Nat.lt_irrefl, Nat.not_lt_zero, Nat.zero_lt_succ, Nat.lt_add_one, roT]
          refine WS.poB (tb := tb) false rfl rfl rfl rfl rfl rfl ?_
          refine WS.po (tb := tb) rfl rfl rfl rfl rfl ?_
          refine WS.pend rfl ?_
          refine WS.pcondF rfl rfl ?_
          refine WS.pskip rfl ?_
          refine WS.pregion rfl ?_
          refine WS.poW (tb := tb) rfl rfl rfl rfl rfl (by simp only [lo]; omega) (by simp only [Am.hi]; omega) ?_
          refine WS.po (tb := tb) rfl rfl rfl rfl rfl ?_
          refine WS.pend rfl ?_
          refine WS.nil ?_
          exact ⟨i + 1, by omega, by omega, (SeenBy.seen (v := [0]) ⟨rfl, rfl, (by simp [viewP, okL, okV, mapL, mapV, mem_get, mapL_cellsR, okL_cellsR, roT, e]), (by first | exact rfl | exact own2_dist rfl rfl), (by simp only [slotsP, okV, okL, mapV, mapL, and_true, true_and, List.length_cons, List.length_nil, List.length_append, List.length_map, Nat.reduceAdd, Nat.reduceLT, roT, e]; repeat' (first | exact rfl | refine ⟨?_, ?_⟩ | exact lk_m rfl (hmp _ rfl) | exact hok _ (Nat.le_of_ble_eq_true rfl) | exact lk_i rfl (by omega) | exact lk_sl rfl (by omega) (by omega) (by omega) | decide | omega))⟩)⟩
        | false =>
          rw [hg] at G
          have e : (runsN t (i + 1)).length = (runsN t i).length + 1 := by simp only [runsN]; rw [gx, if_neg h1, if_neg (by simp [hg])]; simp
          refine WS.pseq rfl ?_
          refine WS.pregion rfl ?_
          refine WS.poDT (tb := tb) rfl rfl rfl rfl rfl (by omega) ?_
          refine WS.pend rfl ?_
          refine WS.pseq rfl ?_
          refine WS.pcondT rfl rfl ?_
          refine WS.pskip rfl ?_
          refine WS.pseq rfl ?_
          refine WS.pblock rfl ?_
          refine WS.pseq rfl ?_
          refine WS.pregion rfl ?_
          refine WS.po (tb := tb) rfl rfl rfl rfl rfl ?_
          refine WS.poP (tb := tb) rfl rfl rfl rfl (step_P (evP_index rfl rfl rfl rfl rfl rfl (by omega))) (by simp only [Nat.zero_add, Nat.add_zero, Nat.reduceAdd, Nat.reduceMul, Nat.add_assoc, Nat.mul_one]; exact rfl) ?_
          refine WS.po (tb := tb) rfl rfl rfl rfl (step_R rfl (evR_load rfl rfl rfl rfl (cellsI_get hx))) ?_
          refine WS.po (tb := tb) rfl rfl rfl rfl rfl ?_
          refine WS.po (tb := tb) rfl rfl rfl rfl rfl ?_
          refine WS.pend rfl ?_
          refine WS.pseq rfl ?_
          refine WS.pregion rfl ?_
          refine WS.po (tb := tb) rfl rfl rfl rfl rfl ?_
          refine WS.poDT (tb := tb) rfl rfl rfl rfl rfl (by omega) ?_
          refine WS.po (tb := tb) rfl rfl rfl rfl rfl ?_
          refine WS.po (tb := tb) rfl rfl rfl rfl rfl ?_
          refine WS.po (tb := tb) rfl rfl rfl rfl rfl ?_
          refine WS.pcallM (tb := tb) [0] G rfl rfl rfl rfl rfl (by (try simp only [mapL, mapV, List.getD_cons_zero, List.getD_cons_succ]); exact rfl) (by simp [okL, okV, roT]) rfl (by simp [embP, okL, okV, mapL, mapV, mem_next, mem_get, mem_ro, mapL_cellsR, okL_cellsR, roT]) rfl ?_; rintro _ _ ⟨rfl, rfl⟩ -; simp only [plugL, setsL, newsL, isOwn, ownB, over, mapL, mapV, List.getD_cons_zero, List.getD_cons_succ, List.set_cons_zero, List.set_cons_succ, List.length_cons, List.length_nil, Nat.reduceAdd, Nat.reduceLT, Nat.zero_add, if_true, if_false, Nat.reduceSub, reduceIte, List.map_cons, List.map_nil, List.append_nil, List.cons_append, List.nil_append, mapL_cellsR, Nat.lt_irrefl, Nat.not_lt_zero, Nat.zero_lt_succ, Nat.lt_add_one, roT]
          refine WS.poB (tb := tb) true rfl rfl rfl rfl rfl rfl ?_
          refine WS.po (tb := tb) rfl rfl rfl rfl rfl ?_
          refine WS.pend rfl ?_
          refine WS.pcondT rfl rfl ?_
          refine WS.pregion rfl ?_
          refine WS.po (tb := tb) rfl rfl rfl rfl rfl ?_
          refine WS.poW (tb := tb) rfl rfl rfl rfl rfl (by simp only [lo]; omega) (by simp only [Am.hi]; omega) ?_
          refine WS.po (tb := tb) rfl rfl rfl rfl rfl ?_
          refine WS.pend rfl ?_
          refine WS.pregion rfl ?_
          refine WS.poW (tb := tb) rfl rfl rfl rfl rfl (by simp only [lo]; omega) (by simp only [Am.hi]; omega) ?_
          refine WS.po (tb := tb) rfl rfl rfl rfl rfl ?_
          refine WS.pend rfl ?_
          refine WS.nil ?_
          exact ⟨i + 1, by omega, by omega, (SeenBy.seen (v := [0]) ⟨rfl, rfl, (by simp [viewP, okL, okV, mapL, mapV, mem_get, mapL_cellsR, okL_cellsR, roT, e]), (by first | exact rfl | exact own2_dist rfl rfl), (by simp only [slotsP, okV, okL, mapV, mapL, and_true, true_and, List.length_cons, List.length_nil, List.length_append, List.length_map, Nat.reduceAdd, Nat.reduceLT, roT, e]; repeat' (first | exact rfl | refine ⟨?_, ?_⟩ | exact lk_m rfl (hmp _ rfl) | exact hok _ (Nat.le_of_ble_eq_true rfl) | exact lk_i rfl (by omega) | exact lk_sl rfl (by omega) (by omega) (by omega) | decide | omega))⟩)⟩
    · obtain rfl : i = t.length := by omega
      refine WS.pseq rfl ?_
      refine WS.pregion rfl ?_
      refine WS.poDF (tb := tb) rfl rfl rfl rfl rfl (by omega) ?_
      refine WS.pend rfl ?_
      refine WS.pseq rfl ?_
      refine WS.pcondF rfl rfl ?_
      refine WS.pout rfl rfl ?_
      exact ⟨rfl, (), trivial, (SeenBy.seen (v := [0]) ⟨rfl, rfl, (by simp [viewP, okL, okV, mapL, mapV, mem_get, mapL_cellsR, okL_cellsR, roT]), (by first | exact rfl | exact own2_dist rfl rfl), (by simp only [slotsP, okV, okL, mapV, mapL, and_true, true_and, List.length_cons, List.length_nil, List.length_append, List.length_map, Nat.reduceAdd, Nat.reduceLT, roT]; repeat' (first | exact rfl | refine ⟨?_, ?_⟩ | exact lk_m rfl (hmp _ rfl) | exact hok _ (Nat.le_of_ble_eq_true rfl) | exact lk_i rfl (by omega) | exact lk_sl rfl (by omega) (by omega) (by omega) | decide | omega))⟩)⟩
  · rintro _ -
    simp only [roT]
    refine WS.pseq rfl ?_
    refine WS.pregion rfl ?_
    refine WS.po (tb := tb) rfl rfl rfl rfl rfl ?_
    refine WS.po (tb := tb) rfl rfl rfl rfl rfl ?_
    refine WS.pend rfl ?_
    refine WS.pret rfl ⟨.inr rfl, _, rfl, ?_⟩
    exact ⟨_, rfl, rfl, rfl⟩
theorem clone_walk (t : List Int) (c : Nat) (q : Bool) (h0 : 0 < t.length) (hl : t.length ≤ 1000) : FM Try.prog 41 [.sl (some (0,0)) t.length c q] (roT t) (fun v M' => v = .sl (some (1,0)) t.length t.length true ∧ M' = roT t ++ [some ⟨cellsR (rwI .i64) t, 3, true⟩]) := by
  refine FM.pbodyV (tb := tb) (fn := Try.f41) rfl rfl ?_
  simp only [argS, Nat.reduceAdd, roT, List.length_cons, List.length_nil]
  refine WS.pseq rfl ?_
  refine WS.pregion rfl ?_
  refine WS.po (tb := tb) rfl rfl rfl rfl rfl ?_
  refine WS.pend rfl ?_
  refine WS.pseq rfl ?_
  refine WS.pseq rfl ?_
  refine WS.pregion rfl ?_
  refine WS.po (tb := tb) rfl rfl rfl rfl rfl ?_
  refine WS.poB (tb := tb) false rfl rfl rfl rfl rfl rfl ?_
  refine WS.pend rfl ?_
  refine WS.pcondF rfl rfl ?_
  refine WS.pskip rfl ?_
  refine WS.pseq rfl ?_
  refine WS.pregion rfl ?_
  refine WS.po (tb := tb) rfl rfl rfl rfl rfl ?_; rw [new_mem]; simp only [List.cons_append, List.nil_append, vcells, mem_next, List.length_cons, List.length_nil, Nat.zero_add, Nat.reduceAdd, reps, List.append_nil, setL, List.set_cons_zero, List.set_cons_succ, Nat.zero_mul, Nat.reduceMul]
  refine WS.po (tb := tb) rfl rfl rfl rfl rfl ?_
  refine WS.po (tb := tb) rfl rfl rfl rfl (step_H rfl rfl (evH_append_empty rfl rfl rfl rfl rfl rfl rfl rfl rfl (by omega) (by omega) (cellsAt_row (R := rwI .i64) rfl (by simp [rwI])) (by first | exact rfl | (simp only [Run_len, vcells, List.length_cons, List.length_nil, cellsI_len, cellsB_len, List.length_set, List.length_replicate, List.length_append, List.length_map, List.length_take, List.length_drop]; omega) | omega) (by omega))) ?_; (try rw [upd_mem _ rfl]); (try rw [new_mem]); (try simp only [List.set_cons_zero, List.set_cons_succ, List.cons_append, List.nil_append, mem_next, List.length_cons, List.length_nil, Nat.zero_add, Nat.reduceAdd, List.drop_zero, vcells, cellsI_app1, cellsB_app1, cellsI_cons, repsI, repsB, Run_app1, Run_reps])
  refine WS.po (tb := tb) rfl rfl rfl rfl rfl ?_
  refine WS.pend rfl ?_
  refine WS.pret rfl ⟨.inr rfl, _, rfl, ?_⟩
  exact ⟨_, rfl, [0,2], roT t ++ [some ⟨cellsR (rwI .i64) t, 3, true⟩], .sl (some (1,0)) t.length t.length true, ⟨rfl, rfl, (by simp [viewP, okL, okV, mapL, mapV, mem_get, mapL_cellsR, okL_cellsR, roT]), rfl⟩, rfl, Nat.lt_succ_self _, rfl, rfl⟩
end Go.Proofs.Ythhmapgolnkjcaa.Am

