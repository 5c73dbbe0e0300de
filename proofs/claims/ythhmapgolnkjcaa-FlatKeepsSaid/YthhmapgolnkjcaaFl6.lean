/- The pieces that a flat map tells, walked. Conditions: those of each theorem. -/
import Derived.Test.YthhmapgolnkjcaaFl5
namespace Go.Proofs.Ythhmapgolnkjcaa.Am
open Go.Proofs
set_option maxRecDepth 1000000
set_option maxHeartbeats 4000000
set_option linter.unusedSimpArgs false
set_option linter.unusedVariables false
def jn (t : List Int) (a k : Nat) : Bool := decide (0 < k ∧ ((t.getD (a + k) 0 < 0 ∧ t.getD (a + k - 1) 0 < 0) ∨ gOn t (a + k) = true))
def rngN (t : List Int) (a : Nat) : Nat → List Run
  | 0 => []
  | k + 1 => if jn t a k = true then bump (rngN t a k) else rngN t a k ++ [⟨(a + k : Nat), 1, t.getD (a + k) 0⟩]
theorem rngN_le (t : List Int) (a : Nat) : ∀ k, (rngN t a k).length ≤ k
  | 0 => by simp [rngN]
  | k + 1 => by
    have := rngN_le t a k
    simp only [rngN]
    split
    · rw [bump_len]; omega
    · simp; omega
theorem rngN_ne (t : List Int) (a : Nat) : ∀ k, rngN t a (k + 1) ≠ []
  | 0 => fun e => by simp [rngN, jn] at e
  | k + 1 => fun e => by
    have hl := congrArg List.length e
    rw [rngN] at hl
    split at hl
    · rw [bump_len] at hl
      exact rngN_ne t a k (List.length_eq_zero_iff.1 (by simpa using hl))
    · simp at hl
theorem rngN_lens (t : List Int) (a : Nat) : ∀ k, ∀ r ∈ rngN t a k, 1 ≤ r.len ∧ r.len ≤ k
  | 0, r, h => by simp [rngN] at h
  | k + 1, r, h => by
    have ih := rngN_lens t a k
    simp only [rngN] at h
    split at h
    · rcases mem_bump h with h | ⟨s, h1, rfl⟩
      · have := ih r h; omega
      · have := ih s h1; simp only; omega
    · rcases List.mem_append.1 h with h | h
      · have := ih r h; omega
      · simp only [List.mem_singleton] at h; subst h; simp only; omega
theorem range_bad (t : List Int) (most : Int) (q : Bool) (lba n : Int) (hl : t.length ≤ 1000) (h : ¬ (1 ≤ n ∧ n ≤ t.length ∧ 0 ≤ lba ∧ lba ≤ t.length - n)) : FM Try.prog 21 [.p (some (1,0)), .i .i64 lba, .i .i64 n] (mapM t most q) (fun v M' => v = .tup [.sl none 0 0 false, .i .i64 1] ∧ M' = mapM t most q) := by
  have R := right_walk t most q lba n hl
  rw [rgt, decide_eq_false h] at R
  refine FM.pbody (tb := tb) (fn := Try.f21) rfl rfl ?_
  simp only [argS, Nat.reduceAdd, mapM, List.length_cons, List.length_nil]
  refine WS.pseq rfl ?_
  refine WS.pregion rfl ?_
  refine WS.po (tb := tb) rfl rfl rfl rfl rfl ?_
  refine WS.po (tb := tb) rfl rfl rfl rfl rfl ?_
  refine WS.pend rfl ?_
  refine WS.pseq rfl ?_
  refine WS.pseq rfl ?_
  refine WS.pregion rfl ?_
  refine WS.po (tb := tb) rfl rfl rfl rfl rfl ?_
  refine WS.po (tb := tb) rfl rfl rfl rfl rfl ?_
  refine WS.po (tb := tb) rfl rfl rfl rfl rfl ?_
  refine WS.pcallM (tb := tb) [0,1] R rfl rfl rfl rfl rfl (by (try simp only [mapL, mapV, List.getD_cons_zero, List.getD_cons_succ]); exact rfl) (by simp [okL, okV, mapM]) rfl (by simp [embP, okL, okV, mapL, mapV, mem_next, mem_get, mem_ro, mapL_cellsR, okL_cellsR, mapM]) rfl ?_; rintro _ _ ⟨rfl, rfl⟩ -; simp only [plugL, setsL, newsL, isOwn, ownB, over, mapL, mapV, List.getD_cons_zero, List.getD_cons_succ, List.set_cons_zero, List.set_cons_succ, List.length_cons, List.length_nil, Nat.reduceAdd, Nat.reduceLT, Nat.zero_add, if_true, if_false, Nat.reduceSub, reduceIte, List.map_cons, List.map_nil, List.append_nil, List.cons_append, List.nil_append, mapL_cellsR, Nat.lt_irrefl, Nat.not_lt_zero, Nat.zero_lt_succ, Nat.lt_add_one, mapM]
  refine WS.poB (tb := tb) true rfl rfl rfl rfl rfl rfl ?_
  refine WS.pend rfl ?_
  refine WS.pcondT rfl rfl ?_
  refine WS.pseq rfl ?_
  refine WS.pregion rfl ?_
  refine WS.po (tb := tb) rfl rfl rfl rfl rfl ?_
  refine WS.po (tb := tb) rfl rfl rfl rfl rfl ?_
  refine WS.pend rfl ?_
  refine WS.pret rfl ⟨.inr rfl, _, rfl, ?_⟩
  exact ⟨_, rfl, rfl, rfl⟩

theorem range_walk (t : List Int) (most : Int) (q : Bool) (a n : Nat) (hn : 1 ≤ n) (han : a + n ≤ t.length) (hl : t.length ≤ 1000) (hb : Bnd t) : FM Try.prog 21 [.p (some (1,0)), .i .i64 a, .i .i64 n] (mapM t most q) (fun v M' => v = .tup [(match rngN t a n with | [] => .sl none 0 0 false | x :: l => .sl (some (2,0)) (l.length + 1) (l.length + 1) true), .i .i64 0] ∧ M' = mapM t most q ++ [match rngN t a n with | [] => none | x :: l => some ⟨cellsR rwRun (x :: l), 56, true⟩]) := by
  have R := right_walk t most q a n hl
  rw [rgt, decide_eq_true (by omega)] at R
  refine FM.pbodyV (tb := tb) (fn := Try.f21) rfl rfl ?_
  simp only [argS, Nat.reduceAdd, mapM, List.length_cons, List.length_nil]
  refine WS.pseq rfl ?_
  refine WS.pregion rfl ?_
  refine WS.po (tb := tb) rfl rfl rfl rfl rfl ?_
  refine WS.po (tb := tb) rfl rfl rfl rfl rfl ?_
  refine WS.pend rfl ?_
  refine WS.pseq rfl ?_
  refine WS.pseq rfl ?_
  refine WS.pregion rfl ?_
  refine WS.po (tb := tb) rfl rfl rfl rfl rfl ?_
  refine WS.po (tb := tb) rfl rfl rfl rfl rfl ?_
  refine WS.po (tb := tb) rfl rfl rfl rfl rfl ?_
  refine WS.pcallM (tb := tb) [0,1] R rfl rfl rfl rfl rfl (by (try simp only [mapL, mapV, List.getD_cons_zero, List.getD_cons_succ]); exact rfl) (by simp [okL, okV, mapM]) rfl (by simp [embP, okL, okV, mapL, mapV, mem_next, mem_get, mem_ro, mapL_cellsR, okL_cellsR, mapM]) rfl ?_; rintro _ _ ⟨rfl, rfl⟩ -; simp only [plugL, setsL, newsL, isOwn, ownB, over, mapL, mapV, List.getD_cons_zero, List.getD_cons_succ, List.set_cons_zero, List.set_cons_succ, List.length_cons, List.length_nil, Nat.reduceAdd, Nat.reduceLT, Nat.zero_add, if_true, if_false, Nat.reduceSub, reduceIte, List.map_cons, List.map_nil, List.append_nil, List.cons_append, List.nil_append, mapL_cellsR, Nat.lt_irrefl, Nat.not_lt_zero, Nat.zero_lt_succ, Nat.lt_add_one, mapM]
  refine WS.poB (tb := tb) false rfl rfl rfl rfl rfl rfl ?_
  refine WS.pend rfl ?_
  refine WS.pcondF rfl rfl ?_
  refine WS.pskip rfl ?_
  refine WS.pseq rfl ?_
  refine WS.pregion rfl ?_
  refine WS.po (tb := tb) rfl rfl rfl rfl rfl ?_
  refine WS.pend rfl ?_
  refine WS.pseq rfl ?_
  refine WS.pseq rfl ?_
  refine WS.pregion rfl ?_
  refine WS.po (tb := tb) rfl rfl rfl rfl rfl ?_
  refine WS.po (tb := tb) rfl rfl rfl rfl rfl ?_
  refine WS.pend rfl ?_
  refine WS.pblock rfl ?_
  refine WS.ploopI (σ := Nat × List Run) (τ := List Run) (fun s => [(0, .p (some (1,0))), (1, .i .i64 a), (2, .i .i64 n), (9, .i .i64 (a + s.1 : Nat)), (8, match s.2 with | [] => .sl none 0 0 false | x :: l => .sl (some (2,0)) (l.length + 1) (l.length + 1) true)]) (fun s => mapM t most q ++ [match s.2 with | [] => none | x :: l => some ⟨cellsR rwRun (x :: l), 56, true⟩]) (fun s => s.1 ≤ n ∧ s.2 = rngN t a s.1) (fun s => n - s.1)
    (fun b => [(8, match b with | [] => .sl none 0 0 false | x :: l => .sl (some (2,0)) (l.length + 1) (l.length + 1) true)]) (fun b => mapM t most q ++ [match b with | [] => none | x :: l => some ⟨cellsR rwRun (x :: l), 56, true⟩]) (fun b => b = rngN t a n) 0 [0,1,2] (0, []) rfl ⟨Nat.zero_le _, rfl⟩ ⟨rfl, rfl, (by simp [viewP, okL, okV, mapL, mapV, mem_get, mapL_cellsR, okL_cellsR, mapM, reps, Nat.add_zero]), (by first | exact rfl | exact own2_dist rfl rfl), (by simp only [slotsP, okV, okL, mapV, mapL, and_true, true_and, List.length_cons, List.length_nil, List.length_append, List.length_map, Nat.reduceAdd, Nat.reduceLT, mapM, reps, Nat.add_zero]; repeat' (first | exact rfl | refine ⟨?_, ?_⟩ | exact lk_m rfl (hmp _ rfl) | exact hok _ (Nat.le_of_ble_eq_true rfl) | exact lk_i rfl (by omega) | exact lk_sl rfl (by omega) (by omega) (by omega) | decide | omega))⟩ rfl ?_ ?_
  · rintro ⟨k, L⟩ ⟨hk, hL⟩
    dsimp only at hk hL
    have hle := rngN_le t a k
    rw [← hL] at hle
    by_cases h : k < n
    · obtain ⟨x, hx⟩ : ∃ x, t[a + k]? = some x := ⟨_, List.getElem?_eq_getElem (by omega)⟩
      have gx := getD_of hx
      have bx := hb x (List.mem_of_getElem? hx)
      have hlens := rngN_lens t a k
      rw [← hL] at hlens
      have G := goesOn_walk t (a + k) t.length q (by omega) hl hb
      have eK : ((a + (k + 1) : Nat) : Int) = ((a + k : Nat) : Int) + 1 := by omega
      by_cases h0 : k = 0
      · subst h0
        have e : L ++ [(⟨(a + 0 : Nat), 1, x⟩ : Run)] = rngN t a (0 + 1) := by simp only [rngN]; rw [if_neg (by simp [jn]), gx, hL]; rfl
        obtain rfl : L = [] := hL
        simp only [mapM, List.cons_append, List.nil_append]
        refine WS.pseq rfl ?_
        refine WS.pseq rfl ?_
        refine WS.pregion rfl ?_
        refine WS.po (tb := tb) rfl rfl rfl rfl rfl ?_
        refine WS.po (tb := tb) rfl rfl rfl rfl rfl ?_
        refine WS.po (tb := tb) rfl rfl rfl rfl rfl ?_
        refine WS.poW (tb := tb) rfl rfl rfl rfl rfl (by simp only [lo]; omega) (by simp only [Am.hi]; omega) ?_
        refine WS.poDT (tb := tb) rfl rfl rfl rfl rfl (by omega) ?_
        refine WS.pend rfl ?_
        refine WS.pcondT rfl rfl ?_
        refine WS.pskip rfl ?_
        refine WS.pseq rfl ?_
        refine WS.pblock rfl ?_
        refine WS.pseq rfl ?_
        refine WS.pregion rfl ?_
        refine WS.po (tb := tb) rfl rfl rfl rfl rfl ?_
        refine WS.po (tb := tb) rfl rfl rfl rfl rfl ?_
        refine WS.poP (tb := tb) rfl rfl rfl rfl rfl (by simp only [List.getElem_toArray, List.getElem_cons_zero, List.getElem_cons_succ, Nat.zero_add, Nat.add_zero, Nat.reduceAdd, Nat.reduceMul, Nat.add_assoc, Nat.mul_one, Int.toNat_natCast, Int.reduceToNat, Int.toNat_zero, Nat.zero_mul]; exact rfl) ?_
        refine WS.po (tb := tb) rfl rfl rfl rfl rfl ?_
        refine WS.po (tb := tb) rfl rfl rfl rfl rfl ?_
        refine WS.poP (tb := tb) rfl rfl rfl rfl (step_P (evP_index rfl rfl rfl rfl rfl rfl (by omega))) (by simp only [Nat.zero_add, Nat.add_zero, Nat.reduceAdd, Nat.reduceMul, Nat.add_assoc, Nat.mul_one]; exact rfl) ?_
        refine WS.po (tb := tb) rfl rfl rfl rfl (step_R rfl (evR_load rfl rfl rfl rfl (cellsI_get hx))) ?_
        refine WS.po (tb := tb) rfl rfl rfl rfl rfl ?_
        refine WS.po (tb := tb) rfl rfl rfl rfl rfl ?_
        refine WS.pend rfl ?_
        refine WS.pseq rfl ?_
        refine WS.pseq rfl ?_
        refine WS.pregion rfl ?_
        refine WS.po (tb := tb) rfl rfl rfl rfl rfl ?_
        refine WS.po (tb := tb) rfl rfl rfl rfl rfl ?_
        refine WS.poDF (tb := tb) rfl rfl rfl rfl rfl (by omega) ?_
        refine WS.po (tb := tb) rfl rfl rfl rfl rfl ?_
        refine WS.pono rfl rfl rfl rfl ?_
        refine WS.pono rfl rfl rfl rfl ?_
        refine WS.pono rfl rfl rfl rfl ?_
        refine WS.pono rfl rfl rfl rfl ?_
        refine WS.pono rfl rfl rfl rfl ?_
        refine WS.pono rfl rfl rfl rfl ?_
        refine WS.pono rfl rfl rfl rfl ?_
        refine WS.pono rfl rfl rfl rfl ?_
        refine WS.pono rfl rfl rfl rfl ?_
        refine WS.pono rfl rfl rfl rfl ?_
        refine WS.pono rfl rfl rfl rfl ?_
        refine WS.pono rfl rfl rfl rfl ?_
        refine WS.pono rfl rfl rfl rfl ?_
        refine WS.pono rfl rfl rfl rfl ?_
        refine WS.pono rfl rfl rfl rfl ?_
        refine WS.pono rfl rfl rfl rfl ?_
        refine WS.pono rfl rfl rfl rfl ?_
        refine WS.pono rfl rfl rfl rfl ?_
        refine WS.pono rfl rfl rfl rfl ?_
        refine WS.pono rfl rfl rfl rfl ?_
        refine WS.po (tb := tb) rfl rfl rfl rfl rfl ?_
        refine WS.pend rfl ?_
        refine WS.pcondF rfl rfl ?_
        refine WS.pskip rfl ?_
        refine WS.pregion rfl ?_
        refine WS.po (tb := tb) rfl rfl rfl rfl rfl ?_
        refine WS.po (tb := tb) rfl rfl rfl rfl rfl ?_
        refine WS.po (tb := tb) rfl rfl rfl rfl rfl ?_
        refine WS.po (tb := tb) rfl rfl rfl rfl rfl ?_
        refine WS.poP (tb := tb) rfl rfl rfl rfl rfl (by simp only [List.getElem_toArray, List.getElem_cons_zero, List.getElem_cons_succ, Nat.zero_add, Nat.add_zero, Nat.reduceAdd, Nat.reduceMul, Nat.add_assoc, Nat.mul_one, Int.toNat_natCast, Int.reduceToNat, Int.toNat_zero, Nat.zero_mul]; exact rfl) ?_
        refine WS.po (tb := tb) rfl rfl rfl rfl rfl ?_
        refine WS.po (tb := tb) rfl rfl rfl rfl rfl ?_
        refine WS.poP (tb := tb) rfl rfl rfl rfl (step_P (evP_index rfl rfl rfl rfl rfl rfl (by omega))) (by simp only [Nat.zero_add, Nat.add_zero, Nat.reduceAdd, Nat.reduceMul, Nat.add_assoc, Nat.mul_one]; exact rfl) ?_
        refine WS.po (tb := tb) rfl rfl rfl rfl (step_R rfl (evR_load rfl rfl rfl rfl (cellsI_get hx))) ?_
        refine WS.poA (tb := tb) rfl rfl rfl rfl rfl (by simp only [vcells, setL, List.set_cons_zero, List.set_cons_succ, List.getElem_toArray, List.getElem_cons_zero, List.getElem_cons_succ, Nat.zero_add, Nat.add_zero, Nat.reduceAdd, Nat.reduceMul, Nat.add_assoc, Nat.mul_one, Int.toNat_natCast, Int.reduceToNat, Int.toNat_zero, Nat.zero_mul]; exact rfl) ?_
        refine WS.po (tb := tb) rfl rfl rfl rfl rfl ?_; rw [new_mem]; simp only [List.cons_append, List.nil_append, vcells, mem_next, List.length_cons, List.length_nil, Nat.zero_add, Nat.reduceAdd, reps, List.append_nil, setL, List.set_cons_zero, List.set_cons_succ, Nat.zero_mul, Nat.reduceMul]
        refine WS.po (tb := tb) rfl rfl rfl rfl (step_H rfl rfl (evH_append_nil rfl rfl rfl rfl rfl rfl rfl rfl rfl rfl (by omega) (by omega) (cellsAt_all rfl rfl) (by first | exact rfl | (simp only [Run_len, vcells, List.length_cons, List.length_nil, cellsI_len, cellsB_len, List.length_set, List.length_replicate, List.length_append, List.length_map, List.length_take, List.length_drop]; omega) | omega) (by omega))) ?_; (try rw [upd_mem _ rfl]); (try rw [new_mem]); (try simp only [List.set_cons_zero, List.set_cons_succ, List.cons_append, List.nil_append, mem_next, List.length_cons, List.length_nil, Nat.zero_add, Nat.reduceAdd, List.drop_zero, vcells, cellsI_app1, cellsB_app1, cellsI_cons, repsI, repsB, Run_app1, Run_reps, mapM, roT])
        refine WS.po (tb := tb) rfl rfl rfl rfl rfl ?_
        refine WS.pend rfl ?_
        refine WS.pregion rfl ?_
        refine WS.po (tb := tb) rfl rfl rfl rfl rfl ?_
        refine WS.poW (tb := tb) rfl rfl rfl rfl rfl (by simp only [lo]; omega) (by simp only [Am.hi]; omega) ?_
        refine WS.po (tb := tb) rfl rfl rfl rfl rfl ?_
        refine WS.pend rfl ?_
        refine WS.nil ?_
        exact ⟨(0 + 1, [(⟨(a + 0 : Nat), 1, x⟩ : Run)]), ⟨by dsimp only; omega, e⟩, by dsimp only; omega, (SeenBy.seen (v := [0,1,4]) ⟨rfl, rfl, (by simp [viewP, okL, okV, mapL, mapV, mem_get, mapL_cellsR, okL_cellsR, mapM, one_run, Nat.add_zero]), (by first | exact rfl | exact own2_dist rfl rfl), (by simp only [slotsP, okV, okL, mapV, mapL, and_true, true_and, List.length_cons, List.length_nil, List.length_append, List.length_map, Nat.reduceAdd, Nat.reduceLT, mapM, one_run, Nat.add_zero]; repeat' (first | exact rfl | refine ⟨?_, ?_⟩ | exact lk_m rfl (hmp _ rfl) | exact hok _ (Nat.le_of_ble_eq_true rfl) | exact lk_i rfl (by omega) | exact lk_sl rfl (by omega) (by omega) (by omega) | decide | omega))⟩)⟩
      · obtain ⟨y, hy⟩ : ∃ y, t[a + k - 1]? = some y := ⟨_, List.getElem?_eq_getElem (by omega)⟩
        have gy := getD_of hy
        have bY := hb y (List.mem_of_getElem? hy)
        have eI : ((a + k : Nat) : Int) - 1 = ((a + k - 1 : Nat) : Int) := by omega
        rcases L with _ | ⟨z, l⟩
        · exact absurd hL.symm (by obtain ⟨j, rfl⟩ : ∃ j, k = j + 1 := ⟨k - 1, by omega⟩; exact rngN_ne t a j)
        · simp only [List.length_cons] at hle
          obtain ⟨r, y', l', hr, hrm, hbm, hbc, hbl⟩ := bump_cons z l
          have hrl := hlens r hrm
          have hs := Run_set_len hr (r.len + 1)
          rw [← hbm, hbc] at hs
          have eL : (((l.length + 1 : Nat) : Int)) - 1 = (l.length : Int) := by omega
          have hgo : gOn t (a + k) = decide (0 < a + k ∧ 0 ≤ x ∧ 0 ≤ y ∧ x = y + 1) := by rw [gOn, gx, gy]
          have hj : jn t a k = decide (0 < k ∧ ((x < 0 ∧ y < 0) ∨ gOn t (a + k) = true)) := by rw [jn, gx, gy]
          have eB : jn t a k = true → bump (z :: l) = rngN t a (k + 1) := fun hj => by simp only [rngN]; rw [if_pos hj, ← hL]
          have eA : jn t a k = false → z :: (l ++ [(⟨(a + k : Nat), 1, x⟩ : Run)]) = rngN t a (k + 1) := fun hj => by simp only [rngN]; rw [if_neg (by simp [hj]), ← hL, gx]; rfl
          simp only [mapM, List.cons_append, List.nil_append]
          by_cases h1 : x < 0
          · by_cases h2 : y < 0
            · have e := eB (by rw [hj, decide_eq_true ⟨by omega, .inl ⟨h1, h2⟩⟩])
              refine WS.pseq rfl ?_
              refine WS.pseq rfl ?_
              refine WS.pregion rfl ?_
              refine WS.po (tb := tb) rfl rfl rfl rfl rfl ?_
              refine WS.po (tb := tb) rfl rfl rfl rfl rfl ?_
              refine WS.po (tb := tb) rfl rfl rfl rfl rfl ?_
              refine WS.poW (tb := tb) rfl rfl rfl rfl rfl (by simp only [lo]; omega) (by simp only [Am.hi]; omega) ?_
              refine WS.poDT (tb := tb) rfl rfl rfl rfl rfl (by omega) ?_
              refine WS.pend rfl ?_
              refine WS.pcondT rfl rfl ?_
              refine WS.pskip rfl ?_
              refine WS.pseq rfl ?_
              refine WS.pblock rfl ?_
              refine WS.pseq rfl ?_
              refine WS.pregion rfl ?_
              refine WS.po (tb := tb) rfl rfl rfl rfl rfl ?_
              refine WS.po (tb := tb) rfl rfl rfl rfl rfl ?_
              refine WS.poP (tb := tb) rfl rfl rfl rfl rfl (by simp only [List.getElem_toArray, List.getElem_cons_zero, List.getElem_cons_succ, Nat.zero_add, Nat.add_zero, Nat.reduceAdd, Nat.reduceMul, Nat.add_assoc, Nat.mul_one, Int.toNat_natCast, Int.reduceToNat, Int.toNat_zero, Nat.zero_mul]; exact rfl) ?_
              refine WS.po (tb := tb) rfl rfl rfl rfl rfl ?_
              refine WS.po (tb := tb) rfl rfl rfl rfl rfl ?_
              refine WS.poP (tb := tb) rfl rfl rfl rfl (step_P (evP_index rfl rfl rfl rfl rfl rfl (by omega))) (by simp only [Nat.zero_add, Nat.add_zero, Nat.reduceAdd, Nat.reduceMul, Nat.add_assoc, Nat.mul_one]; exact rfl) ?_
              refine WS.po (tb := tb) rfl rfl rfl rfl (step_R rfl (evR_load rfl rfl rfl rfl (cellsI_get hx))) ?_
              refine WS.poDT (tb := tb) rfl rfl rfl rfl rfl (by omega) ?_
              refine WS.po (tb := tb) rfl rfl rfl rfl rfl ?_
              refine WS.pend rfl ?_
              refine WS.pseq rfl ?_
              refine WS.pseq rfl ?_
              refine WS.pregion rfl ?_
              refine WS.po (tb := tb) rfl rfl rfl rfl rfl ?_
              refine WS.po (tb := tb) rfl rfl rfl rfl rfl ?_
              refine WS.poDT (tb := tb) rfl rfl rfl rfl rfl (by omega) ?_
              refine WS.po (tb := tb) rfl rfl rfl rfl rfl ?_
              refine WS.po (tb := tb) rfl rfl rfl rfl rfl ?_
              refine WS.po (tb := tb) rfl rfl rfl rfl rfl ?_
              refine WS.po (tb := tb) rfl rfl rfl rfl rfl ?_
              refine WS.po (tb := tb) rfl rfl rfl rfl rfl ?_
              refine WS.poP (tb := tb) rfl rfl rfl rfl rfl (by simp only [List.getElem_toArray, List.getElem_cons_zero, List.getElem_cons_succ, Nat.zero_add, Nat.add_zero, Nat.reduceAdd, Nat.reduceMul, Nat.add_assoc, Nat.mul_one, Int.toNat_natCast, Int.reduceToNat, Int.toNat_zero, Nat.zero_mul]; exact rfl) ?_
              refine WS.po (tb := tb) rfl rfl rfl rfl rfl ?_
              refine WS.po (tb := tb) rfl rfl rfl rfl rfl ?_
              refine WS.poW (tb := tb) rfl rfl rfl rfl rfl (by simp only [lo]; omega) (by simp only [Am.hi]; omega) ?_
              refine WS.poP (tb := tb) rfl rfl rfl rfl (step_P (evP_index rfl rfl rfl rfl rfl (by assumption) (by omega))) (by simp only [List.getElem_toArray, List.getElem_cons_zero, List.getElem_cons_succ, Nat.zero_add, Nat.add_zero, Nat.reduceAdd, Nat.reduceMul, Nat.add_assoc, Nat.mul_one, Int.toNat_natCast, Int.reduceToNat, Int.toNat_zero, Nat.zero_mul]; exact rfl) ?_
              refine WS.po (tb := tb) rfl rfl rfl rfl (step_R rfl (evR_load rfl rfl rfl rfl (cellsI_get hy))) ?_
              refine WS.poDT (tb := tb) rfl rfl rfl rfl rfl (by omega) ?_
              refine WS.po (tb := tb) rfl rfl rfl rfl rfl ?_
              refine WS.po (tb := tb) rfl rfl rfl rfl rfl ?_
              refine WS.pono rfl rfl rfl rfl ?_
              refine WS.pono rfl rfl rfl rfl ?_
              refine WS.pono rfl rfl rfl rfl ?_
              refine WS.pono rfl rfl rfl rfl ?_
              refine WS.pono rfl rfl rfl rfl ?_
              refine WS.pono rfl rfl rfl rfl ?_
              refine WS.po (tb := tb) rfl rfl rfl rfl rfl ?_
              refine WS.po (tb := tb) rfl rfl rfl rfl rfl ?_
              refine WS.pend rfl ?_
              refine WS.pcondT rfl rfl ?_
              refine WS.pseq rfl ?_
              refine WS.pregion rfl ?_
              refine WS.po (tb := tb) rfl rfl rfl rfl rfl ?_
              refine WS.po (tb := tb) rfl rfl rfl rfl rfl ?_
              refine WS.po (tb := tb) rfl rfl rfl rfl rfl ?_
              refine WS.poW (tb := tb) rfl rfl rfl rfl rfl (by simp only [lo]; omega) (by simp only [Am.hi]; omega) ?_
              refine WS.poP (tb := tb) rfl rfl rfl rfl (step_P (evP_index rfl rfl rfl rfl rfl (by assumption) (by omega))) (by simp only [List.getElem_toArray, List.getElem_cons_zero, List.getElem_cons_succ, Nat.zero_add, Nat.add_zero, Nat.reduceAdd, Nat.reduceMul, Nat.add_assoc, Nat.mul_one, Int.toNat_natCast, Int.reduceToNat, Int.toNat_zero, Nat.zero_mul]; exact rfl) ?_
              refine WS.poP (tb := tb) rfl rfl rfl rfl rfl (by simp only [List.getElem_toArray, List.getElem_cons_zero, List.getElem_cons_succ, Nat.zero_add, Nat.add_zero, Nat.reduceAdd, Nat.reduceMul, Nat.add_assoc, Nat.mul_one, Int.toNat_natCast, Int.reduceToNat, Int.toNat_zero, Nat.zero_mul]; exact rfl) ?_
              refine WS.po (tb := tb) rfl rfl rfl rfl (step_R rfl (evR_load rfl rfl rfl rfl (cellsR_get hr rfl))) ?_
              refine WS.poW (tb := tb) rfl rfl rfl rfl rfl (by simp only [lo]; omega) (by simp only [Am.hi]; omega) ?_
              refine WS.poP (tb := tb) rfl rfl rfl rfl (step_P (evP_index rfl rfl rfl rfl rfl (by assumption) (by omega))) (by simp only [List.getElem_toArray, List.getElem_cons_zero, List.getElem_cons_succ, Nat.zero_add, Nat.add_zero, Nat.reduceAdd, Nat.reduceMul, Nat.add_assoc, Nat.mul_one, Int.toNat_natCast, Int.reduceToNat, Int.toNat_zero, Nat.zero_mul]; exact rfl) ?_
              refine WS.poP (tb := tb) rfl rfl rfl rfl rfl (by simp only [List.getElem_toArray, List.getElem_cons_zero, List.getElem_cons_succ, Nat.zero_add, Nat.add_zero, Nat.reduceAdd, Nat.reduceMul, Nat.add_assoc, Nat.mul_one, Int.toNat_natCast, Int.reduceToNat, Int.toNat_zero, Nat.zero_mul]; exact rfl) ?_
              refine WS.po0 (tb := tb) rfl rfl rfl rfl (step_H rfl rfl (evH_store rfl rfl rfl rfl rfl (Nat.zero_le _) rfl (by simp [vcells]) (by simp only [Run_len, vcells, List.length_cons, List.length_nil, cellsI_len, cellsB_len, List.length_set, List.length_replicate, List.length_append, List.length_map, List.length_take, List.length_drop]; omega))) ?_; rw [upd_mem _ rfl]; simp only [vcells, List.set_cons_zero, List.set_cons_succ, hs, mapM, roT]; (try simp only [setL, List.set_cons_zero, List.set_cons_succ])
              refine WS.pend rfl ?_
              refine WS.pexit rfl rfl ?_
              refine WS.pregion rfl ?_
              refine WS.po (tb := tb) rfl rfl rfl rfl rfl ?_
              refine WS.poW (tb := tb) rfl rfl rfl rfl rfl (by simp only [lo]; omega) (by simp only [Am.hi]; omega) ?_
              refine WS.po (tb := tb) rfl rfl rfl rfl rfl ?_
              refine WS.pend rfl ?_
              refine WS.nil ?_
              exact ⟨(k + 1, y' :: l'), ⟨by dsimp only; omega, by rw [← hbc]; exact e⟩, by dsimp only; omega, (SeenBy.seen (v := [0,1,2]) ⟨rfl, rfl, (by simp [viewP, okL, okV, mapL, mapV, mem_get, mapL_cellsR, okL_cellsR, mapM, hbl]), (by first | exact rfl | exact own2_dist rfl rfl), (by simp only [slotsP, okV, okL, mapV, mapL, and_true, true_and, List.length_cons, List.length_nil, List.length_append, List.length_map, Nat.reduceAdd, Nat.reduceLT, mapM, hbl]; repeat' (first | exact rfl | refine ⟨?_, ?_⟩ | exact lk_m rfl (hmp _ rfl) | exact hok _ (Nat.le_of_ble_eq_true rfl) | exact lk_i rfl (by omega) | exact lk_sl rfl (by omega) (by omega) (by omega) | decide | omega))⟩)⟩
            · have hg : gOn t (a + k) = false := by rw [hgo, decide_eq_false (by omega)]
              rw [hg] at G
              have e := eA (by rw [hj, decide_eq_false (by rw [hg]; rintro ⟨_, h | h⟩; exact h2 h.2; cases h)])
              refine WS.pseq rfl ?_
              refine WS.pseq rfl ?_
              refine WS.pregion rfl ?_
              refine WS.po (tb := tb) rfl rfl rfl rfl rfl ?_
              refine WS.po (tb := tb) rfl rfl rfl rfl rfl ?_
              refine WS.po (tb := tb) rfl rfl rfl rfl rfl ?_
              refine WS.poW (tb := tb) rfl rfl rfl rfl rfl (by simp only [lo]; omega) (by simp only [Am.hi]; omega) ?_
              refine WS.poDT (tb := tb) rfl rfl rfl rfl rfl (by omega) ?_
              refine WS.pend rfl ?_
              refine WS.pcondT rfl rfl ?_
              refine WS.pskip rfl ?_
              refine WS.pseq rfl ?_
              refine WS.pblock rfl ?_
              refine WS.pseq rfl ?_
              refine WS.pregion rfl ?_
              refine WS.po (tb := tb) rfl rfl rfl rfl rfl ?_
              refine WS.po (tb := tb) rfl rfl rfl rfl rfl ?_
              refine WS.poP (tb := tb) rfl rfl rfl rfl rfl (by simp only [List.getElem_toArray, List.getElem_cons_zero, List.getElem_cons_succ, Nat.zero_add, Nat.add_zero, Nat.reduceAdd, Nat.reduceMul, Nat.add_assoc, Nat.mul_one, Int.toNat_natCast, Int.reduceToNat, Int.toNat_zero, Nat.zero_mul]; exact rfl) ?_
              refine WS.po (tb := tb) rfl rfl rfl rfl rfl ?_
              refine WS.po (tb := tb) rfl rfl rfl rfl rfl ?_
              refine WS.poP (tb := tb) rfl rfl rfl rfl (step_P (evP_index rfl rfl rfl rfl rfl rfl (by omega))) (by simp only [Nat.zero_add, Nat.add_zero, Nat.reduceAdd, Nat.reduceMul, Nat.add_assoc, Nat.mul_one]; exact rfl) ?_
              refine WS.po (tb := tb) rfl rfl rfl rfl (step_R rfl (evR_load rfl rfl rfl rfl (cellsI_get hx))) ?_
              refine WS.poDT (tb := tb) rfl rfl rfl rfl rfl (by omega) ?_
              refine WS.po (tb := tb) rfl rfl rfl rfl rfl ?_
              refine WS.pend rfl ?_
              refine WS.pseq rfl ?_
              refine WS.pseq rfl ?_
              refine WS.pregion rfl ?_
              refine WS.po (tb := tb) rfl rfl rfl rfl rfl ?_
              refine WS.po (tb := tb) rfl rfl rfl rfl rfl ?_
              refine WS.poDT (tb := tb) rfl rfl rfl rfl rfl (by omega) ?_
              refine WS.po (tb := tb) rfl rfl rfl rfl rfl ?_
              refine WS.po (tb := tb) rfl rfl rfl rfl rfl ?_
              refine WS.po (tb := tb) rfl rfl rfl rfl rfl ?_
              refine WS.po (tb := tb) rfl rfl rfl rfl rfl ?_
              refine WS.po (tb := tb) rfl rfl rfl rfl rfl ?_
              refine WS.poP (tb := tb) rfl rfl rfl rfl rfl (by simp only [List.getElem_toArray, List.getElem_cons_zero, List.getElem_cons_succ, Nat.zero_add, Nat.add_zero, Nat.reduceAdd, Nat.reduceMul, Nat.add_assoc, Nat.mul_one, Int.toNat_natCast, Int.reduceToNat, Int.toNat_zero, Nat.zero_mul]; exact rfl) ?_
              refine WS.po (tb := tb) rfl rfl rfl rfl rfl ?_
              refine WS.po (tb := tb) rfl rfl rfl rfl rfl ?_
              refine WS.poW (tb := tb) rfl rfl rfl rfl rfl (by simp only [lo]; omega) (by simp only [Am.hi]; omega) ?_
              refine WS.poP (tb := tb) rfl rfl rfl rfl (step_P (evP_index rfl rfl rfl rfl rfl (by assumption) (by omega))) (by simp only [List.getElem_toArray, List.getElem_cons_zero, List.getElem_cons_succ, Nat.zero_add, Nat.add_zero, Nat.reduceAdd, Nat.reduceMul, Nat.add_assoc, Nat.mul_one, Int.toNat_natCast, Int.reduceToNat, Int.toNat_zero, Nat.zero_mul]; exact rfl) ?_
              refine WS.po (tb := tb) rfl rfl rfl rfl (step_R rfl (evR_load rfl rfl rfl rfl (cellsI_get hy))) ?_
              refine WS.poDF (tb := tb) rfl rfl rfl rfl rfl (by omega) ?_
              refine WS.po (tb := tb) rfl rfl rfl rfl rfl ?_
              refine WS.po (tb := tb) rfl rfl rfl rfl rfl ?_
              refine WS.po (tb := tb) rfl rfl rfl rfl rfl ?_
              refine WS.po (tb := tb) rfl rfl rfl rfl rfl ?_
              refine WS.poP (tb := tb) rfl rfl rfl rfl rfl (by simp only [List.getElem_toArray, List.getElem_cons_zero, List.getElem_cons_succ, Nat.zero_add, Nat.add_zero, Nat.reduceAdd, Nat.reduceMul, Nat.add_assoc, Nat.mul_one, Int.toNat_natCast, Int.reduceToNat, Int.toNat_zero, Nat.zero_mul]; exact rfl) ?_
              refine WS.po (tb := tb) rfl rfl rfl rfl rfl ?_
              refine WS.po (tb := tb) rfl rfl rfl rfl rfl ?_
              refine WS.pcallM (tb := tb) [0] G rfl rfl rfl rfl rfl (by (try simp only [mapL, mapV, List.getD_cons_zero, List.getD_cons_succ]); exact rfl) (by simp [okL, okV, mapM, roT]) rfl (by simp [embP, okL, okV, mapL, mapV, mem_next, mem_get, mem_ro, mapL_cellsR, okL_cellsR, mapM, roT]) rfl ?_; rintro _ _ ⟨rfl, rfl⟩ -; simp only [plugL, setsL, newsL, isOwn, ownB, over, mapL, mapV, List.getD_cons_zero, List.getD_cons_succ, List.set_cons_zero, List.set_cons_succ, List.length_cons, List.length_nil, Nat.reduceAdd, Nat.reduceLT, Nat.zero_add, if_true, if_false, Nat.reduceSub, reduceIte, List.map_cons, List.map_nil, List.append_nil, List.cons_append, List.nil_append, mapL_cellsR, Nat.lt_irrefl, Nat.not_lt_zero, Nat.zero_lt_succ, Nat.lt_add_one, mapM, roT]
              refine WS.po (tb := tb) rfl rfl rfl rfl rfl ?_
              refine WS.po (tb := tb) rfl rfl rfl rfl rfl ?_
              refine WS.pend rfl ?_
              refine WS.pcondF rfl rfl ?_
              refine WS.pskip rfl ?_
              refine WS.pregion rfl ?_
              refine WS.po (tb := tb) rfl rfl rfl rfl rfl ?_
              refine WS.po (tb := tb) rfl rfl rfl rfl rfl ?_
              refine WS.po (tb := tb) rfl rfl rfl rfl rfl ?_
              refine WS.po (tb := tb) rfl rfl rfl rfl rfl ?_
              refine WS.poP (tb := tb) rfl rfl rfl rfl rfl (by simp only [List.getElem_toArray, List.getElem_cons_zero, List.getElem_cons_succ, Nat.zero_add, Nat.add_zero, Nat.reduceAdd, Nat.reduceMul, Nat.add_assoc, Nat.mul_one, Int.toNat_natCast, Int.reduceToNat, Int.toNat_zero, Nat.zero_mul]; exact rfl) ?_
              refine WS.po (tb := tb) rfl rfl rfl rfl rfl ?_
              refine WS.po (tb := tb) rfl rfl rfl rfl rfl ?_
              refine WS.poP (tb := tb) rfl rfl rfl rfl (step_P (evP_index rfl rfl rfl rfl rfl rfl (by omega))) (by simp only [Nat.zero_add, Nat.add_zero, Nat.reduceAdd, Nat.reduceMul, Nat.add_assoc, Nat.mul_one]; exact rfl) ?_
              refine WS.po (tb := tb) rfl rfl rfl rfl (step_R rfl (evR_load rfl rfl rfl rfl (cellsI_get hx))) ?_
              refine WS.poA (tb := tb) rfl rfl rfl rfl rfl (by simp only [vcells, setL, List.set_cons_zero, List.set_cons_succ, List.getElem_toArray, List.getElem_cons_zero, List.getElem_cons_succ, Nat.zero_add, Nat.add_zero, Nat.reduceAdd, Nat.reduceMul, Nat.add_assoc, Nat.mul_one, Int.toNat_natCast, Int.reduceToNat, Int.toNat_zero, Nat.zero_mul]; exact rfl) ?_
              refine WS.po (tb := tb) rfl rfl rfl rfl rfl ?_; rw [new_mem]; simp only [List.cons_append, List.nil_append, vcells, mem_next, List.length_cons, List.length_nil, Nat.zero_add, Nat.reduceAdd, reps, List.append_nil, setL, List.set_cons_zero, List.set_cons_succ, Nat.zero_mul, Nat.reduceMul]
              refine WS.po (tb := tb) rfl rfl rfl rfl (step_H rfl rfl (evH_append_open rfl rfl rfl rfl rfl rfl rfl rfl rfl (by omega) rfl (Nat.zero_le _) (by omega) (cellsAt_all rfl rfl) (by first | exact rfl | (simp only [Run_len, vcells, List.length_cons, List.length_nil, cellsI_len, cellsB_len, List.length_set, List.length_replicate, List.length_append, List.length_map, List.length_take, List.length_drop]; omega) | omega) (by first | exact rfl | (simp only [Run_len, vcells, List.length_cons, List.length_nil, cellsI_len, cellsB_len, List.length_set, List.length_replicate, List.length_append, List.length_map, List.length_take, List.length_drop]; omega) | omega) rfl (by omega))) ?_; (try rw [upd_mem _ rfl]); (try rw [new_mem]); (try simp only [List.set_cons_zero, List.set_cons_succ, List.cons_append, List.nil_append, mem_next, List.length_cons, List.length_nil, Nat.zero_add, Nat.reduceAdd, List.drop_zero, vcells, cellsI_app1, cellsB_app1, cellsI_cons, repsI, repsB, Run_app1, Run_reps, mapM, roT])
              refine WS.po (tb := tb) rfl rfl rfl rfl rfl ?_
              refine WS.pend rfl ?_
              refine WS.pregion rfl ?_
              refine WS.po (tb := tb) rfl rfl rfl rfl rfl ?_
              refine WS.poW (tb := tb) rfl rfl rfl rfl rfl (by simp only [lo]; omega) (by simp only [Am.hi]; omega) ?_
              refine WS.po (tb := tb) rfl rfl rfl rfl rfl ?_
              refine WS.pend rfl ?_
              refine WS.nil ?_
              exact ⟨(k + 1, z :: (l ++ [(⟨(a + k : Nat), 1, x⟩ : Run)])), ⟨by dsimp only; omega, e⟩, by dsimp only; omega, (SeenBy.seen (v := [0,1,4]) ⟨rfl, rfl, (by simp [viewP, okL, okV, mapL, mapV, mem_get, mapL_cellsR, okL_cellsR, mapM, one_run, Nat.add_zero]), (by first | exact rfl | exact own2_dist rfl rfl), (by simp only [slotsP, okV, okL, mapV, mapL, and_true, true_and, List.length_cons, List.length_nil, List.length_append, List.length_map, Nat.reduceAdd, Nat.reduceLT, mapM, one_run, Nat.add_zero]; repeat' (first | exact rfl | refine ⟨?_, ?_⟩ | exact lk_m rfl (hmp _ rfl) | exact hok _ (Nat.le_of_ble_eq_true rfl) | exact lk_i rfl (by omega) | exact lk_sl rfl (by omega) (by omega) (by omega) | decide | omega))⟩)⟩
          · cases hg : gOn t (a + k) with
            | true =>
              rw [hg] at G
              rw [hg] at hgo
              have hgo := of_decide_eq_true hgo.symm
              have e := eB (by rw [hj, decide_eq_true ⟨by omega, .inr hg⟩])
              refine WS.pseq rfl ?_
              refine WS.pseq rfl ?_
              refine WS.pregion rfl ?_
              refine WS.po (tb := tb) rfl rfl rfl rfl rfl ?_
              refine WS.po (tb := tb) rfl rfl rfl rfl rfl ?_
              refine WS.po (tb := tb) rfl rfl rfl rfl rfl ?_
              refine WS.poW (tb := tb) rfl rfl rfl rfl rfl (by simp only [lo]; omega) (by simp only [Am.hi]; omega) ?_
              refine WS.poDT (tb := tb) rfl rfl rfl rfl rfl (by omega) ?_
              refine WS.pend rfl ?_
              refine WS.pcondT rfl rfl ?_
              refine WS.pskip rfl ?_
              refine WS.pseq rfl ?_
              refine WS.pblock rfl ?_
              refine WS.pseq rfl ?_
              refine WS.pregion rfl ?_
              refine WS.po (tb := tb) rfl rfl rfl rfl rfl ?_
              refine WS.po (tb := tb) rfl rfl rfl rfl rfl ?_
              refine WS.poP (tb := tb) rfl rfl rfl rfl rfl (by simp only [List.getElem_toArray, List.getElem_cons_zero, List.getElem_cons_succ, Nat.zero_add, Nat.add_zero, Nat.reduceAdd, Nat.reduceMul, Nat.add_assoc, Nat.mul_one, Int.toNat_natCast, Int.reduceToNat, Int.toNat_zero, Nat.zero_mul]; exact rfl) ?_
              refine WS.po (tb := tb) rfl rfl rfl rfl rfl ?_
              refine WS.po (tb := tb) rfl rfl rfl rfl rfl ?_
              refine WS.poP (tb := tb) rfl rfl rfl rfl (step_P (evP_index rfl rfl rfl rfl rfl rfl (by omega))) (by simp only [Nat.zero_add, Nat.add_zero, Nat.reduceAdd, Nat.reduceMul, Nat.add_assoc, Nat.mul_one]; exact rfl) ?_
              refine WS.po (tb := tb) rfl rfl rfl rfl (step_R rfl (evR_load rfl rfl rfl rfl (cellsI_get hx))) ?_
              refine WS.poDF (tb := tb) rfl rfl rfl rfl rfl (by omega) ?_
              refine WS.po (tb := tb) rfl rfl rfl rfl rfl ?_
              refine WS.pend rfl ?_
              refine WS.pseq rfl ?_
              refine WS.pseq rfl ?_
              refine WS.pregion rfl ?_
              refine WS.po (tb := tb) rfl rfl rfl rfl rfl ?_
              refine WS.po (tb := tb) rfl rfl rfl rfl rfl ?_
              refine WS.poDT (tb := tb) rfl rfl rfl rfl rfl (by omega) ?_
              refine WS.po (tb := tb) rfl rfl rfl rfl rfl ?_
              refine WS.po (tb := tb) rfl rfl rfl rfl rfl ?_
              refine WS.po (tb := tb) rfl rfl rfl rfl rfl ?_
              refine WS.pono rfl rfl rfl rfl ?_
              refine WS.pono rfl rfl rfl rfl ?_
              refine WS.pono rfl rfl rfl rfl ?_
              refine WS.pono rfl rfl rfl rfl ?_
              refine WS.pono rfl rfl rfl rfl ?_
              refine WS.pono rfl rfl rfl rfl ?_
              refine WS.pono rfl rfl rfl rfl ?_
              refine WS.pono rfl rfl rfl rfl ?_
              refine WS.pono rfl rfl rfl rfl ?_
              refine WS.po (tb := tb) rfl rfl rfl rfl rfl ?_
              refine WS.po (tb := tb) rfl rfl rfl rfl rfl ?_
              refine WS.po (tb := tb) rfl rfl rfl rfl rfl ?_
              refine WS.po (tb := tb) rfl rfl rfl rfl rfl ?_
              refine WS.poP (tb := tb) rfl rfl rfl rfl rfl (by simp only [List.getElem_toArray, List.getElem_cons_zero, List.getElem_cons_succ, Nat.zero_add, Nat.add_zero, Nat.reduceAdd, Nat.reduceMul, Nat.add_assoc, Nat.mul_one, Int.toNat_natCast, Int.reduceToNat, Int.toNat_zero, Nat.zero_mul]; exact rfl) ?_
              refine WS.po (tb := tb) rfl rfl rfl rfl rfl ?_
              refine WS.po (tb := tb) rfl rfl rfl rfl rfl ?_
              refine WS.pcallM (tb := tb) [0] G rfl rfl rfl rfl rfl (by (try simp only [mapL, mapV, List.getD_cons_zero, List.getD_cons_succ]); exact rfl) (by simp [okL, okV, mapM, roT]) rfl (by simp [embP, okL, okV, mapL, mapV, mem_next, mem_get, mem_ro, mapL_cellsR, okL_cellsR, mapM, roT]) rfl ?_; rintro _ _ ⟨rfl, rfl⟩ -; simp only [plugL, setsL, newsL, isOwn, ownB, over, mapL, mapV, List.getD_cons_zero, List.getD_cons_succ, List.set_cons_zero, List.set_cons_succ, List.length_cons, List.length_nil, Nat.reduceAdd, Nat.reduceLT, Nat.zero_add, if_true, if_false, Nat.reduceSub, reduceIte, List.map_cons, List.map_nil, List.append_nil, List.cons_append, List.nil_append, mapL_cellsR, Nat.lt_irrefl, Nat.not_lt_zero, Nat.zero_lt_succ, Nat.lt_add_one, mapM, roT]
              refine WS.po (tb := tb) rfl rfl rfl rfl rfl ?_
              refine WS.po (tb := tb) rfl rfl rfl rfl rfl ?_
              refine WS.pend rfl ?_
              refine WS.pcondT rfl rfl ?_
              refine WS.pseq rfl ?_
              refine WS.pregion rfl ?_
              refine WS.po (tb := tb) rfl rfl rfl rfl rfl ?_
              refine WS.po (tb := tb) rfl rfl rfl rfl rfl ?_
              refine WS.po (tb := tb) rfl rfl rfl rfl rfl ?_
              refine WS.poW (tb := tb) rfl rfl rfl rfl rfl (by simp only [lo]; omega) (by simp only [Am.hi]; omega) ?_
              refine WS.poP (tb := tb) rfl rfl rfl rfl (step_P (evP_index rfl rfl rfl rfl rfl (by assumption) (by omega))) (by simp only [List.getElem_toArray, List.getElem_cons_zero, List.getElem_cons_succ, Nat.zero_add, Nat.add_zero, Nat.reduceAdd, Nat.reduceMul, Nat.add_assoc, Nat.mul_one, Int.toNat_natCast, Int.reduceToNat, Int.toNat_zero, Nat.zero_mul]; exact rfl) ?_
              refine WS.poP (tb := tb) rfl rfl rfl rfl rfl (by simp only [List.getElem_toArray, List.getElem_cons_zero, List.getElem_cons_succ, Nat.zero_add, Nat.add_zero, Nat.reduceAdd, Nat.reduceMul, Nat.add_assoc, Nat.mul_one, Int.toNat_natCast, Int.reduceToNat, Int.toNat_zero, Nat.zero_mul]; exact rfl) ?_
              refine WS.po (tb := tb) rfl rfl rfl rfl (step_R rfl (evR_load rfl rfl rfl rfl (cellsR_get hr rfl))) ?_
              refine WS.poW (tb := tb) rfl rfl rfl rfl rfl (by simp only [lo]; omega) (by simp only [Am.hi]; omega) ?_
              refine WS.poP (tb := tb) rfl rfl rfl rfl (step_P (evP_index rfl rfl rfl rfl rfl (by assumption) (by omega))) (by simp only [List.getElem_toArray, List.getElem_cons_zero, List.getElem_cons_succ, Nat.zero_add, Nat.add_zero, Nat.reduceAdd, Nat.reduceMul, Nat.add_assoc, Nat.mul_one, Int.toNat_natCast, Int.reduceToNat, Int.toNat_zero, Nat.zero_mul]; exact rfl) ?_
              refine WS.poP (tb := tb) rfl rfl rfl rfl rfl (by simp only [List.getElem_toArray, List.getElem_cons_zero, List.getElem_cons_succ, Nat.zero_add, Nat.add_zero, Nat.reduceAdd, Nat.reduceMul, Nat.add_assoc, Nat.mul_one, Int.toNat_natCast, Int.reduceToNat, Int.toNat_zero, Nat.zero_mul]; exact rfl) ?_
              refine WS.po0 (tb := tb) rfl rfl rfl rfl (step_H rfl rfl (evH_store rfl rfl rfl rfl rfl (Nat.zero_le _) rfl (by simp [vcells]) (by simp only [Run_len, vcells, List.length_cons, List.length_nil, cellsI_len, cellsB_len, List.length_set, List.length_replicate, List.length_append, List.length_map, List.length_take, List.length_drop]; omega))) ?_; rw [upd_mem _ rfl]; simp only [vcells, List.set_cons_zero, List.set_cons_succ, hs, mapM, roT]; (try simp only [setL, List.set_cons_zero, List.set_cons_succ])
              refine WS.pend rfl ?_
              refine WS.pexit rfl rfl ?_
              refine WS.pregion rfl ?_
              refine WS.po (tb := tb) rfl rfl rfl rfl rfl ?_
              refine WS.poW (tb := tb) rfl rfl rfl rfl rfl (by simp only [lo]; omega) (by simp only [Am.hi]; omega) ?_
              refine WS.po (tb := tb) rfl rfl rfl rfl rfl ?_
              refine WS.pend rfl ?_
              refine WS.nil ?_
              exact ⟨(k + 1, y' :: l'), ⟨by dsimp only; omega, by rw [← hbc]; exact e⟩, by dsimp only; omega, (SeenBy.seen (v := [0,1,2]) ⟨rfl, rfl, (by simp [viewP, okL, okV, mapL, mapV, mem_get, mapL_cellsR, okL_cellsR, mapM, hbl]), (by first | exact rfl | exact own2_dist rfl rfl), (by simp only [slotsP, okV, okL, mapV, mapL, and_true, true_and, List.length_cons, List.length_nil, List.length_append, List.length_map, Nat.reduceAdd, Nat.reduceLT, mapM, hbl]; repeat' (first | exact rfl | refine ⟨?_, ?_⟩ | exact lk_m rfl (hmp _ rfl) | exact hok _ (Nat.le_of_ble_eq_true rfl) | exact lk_i rfl (by omega) | exact lk_sl rfl (by omega) (by omega) (by omega) | decide | omega))⟩)⟩
            | false =>
              rw [hg] at G
              rw [hg] at hgo
              have hgo := of_decide_eq_false hgo.symm
              have e := eA (by rw [hj, decide_eq_false (by rw [hg]; rintro ⟨_, h | h⟩; exact h1 h.1; cases h)])
              refine WS.pseq rfl ?_
              refine WS.pseq rfl ?_
              refine WS.pregion rfl ?_
              refine WS.po (tb := tb) rfl rfl rfl rfl rfl ?_
              refine WS.po (tb := tb) rfl rfl rfl rfl rfl ?_
              refine WS.po (tb := tb) rfl rfl rfl rfl rfl ?_
              refine WS.poW (tb := tb) rfl rfl rfl rfl rfl (by simp only [lo]; omega) (by simp only [Am.hi]; omega) ?_
              refine WS.poDT (tb := tb) rfl rfl rfl rfl rfl (by omega) ?_
              refine WS.pend rfl ?_
              refine WS.pcondT rfl rfl ?_
              refine WS.pskip rfl ?_
              refine WS.pseq rfl ?_
              refine WS.pblock rfl ?_
              refine WS.pseq rfl ?_
              refine WS.pregion rfl ?_
              refine WS.po (tb := tb) rfl rfl rfl rfl rfl ?_
              refine WS.po (tb := tb) rfl rfl rfl rfl rfl ?_
              refine WS.poP (tb := tb) rfl rfl rfl rfl rfl (by simp only [List.getElem_toArray, List.getElem_cons_zero, List.getElem_cons_succ, Nat.zero_add, Nat.add_zero, Nat.reduceAdd, Nat.reduceMul, Nat.add_assoc, Nat.mul_one, Int.toNat_natCast, Int.reduceToNat, Int.toNat_zero, Nat.zero_mul]; exact rfl) ?_
              refine WS.po (tb := tb) rfl rfl rfl rfl rfl ?_
              refine WS.po (tb := tb) rfl rfl rfl rfl rfl ?_
              refine WS.poP (tb := tb) rfl rfl rfl rfl (step_P (evP_index rfl rfl rfl rfl rfl rfl (by omega))) (by simp only [Nat.zero_add, Nat.add_zero, Nat.reduceAdd, Nat.reduceMul, Nat.add_assoc, Nat.mul_one]; exact rfl) ?_
              refine WS.po (tb := tb) rfl rfl rfl rfl (step_R rfl (evR_load rfl rfl rfl rfl (cellsI_get hx))) ?_
              refine WS.poDF (tb := tb) rfl rfl rfl rfl rfl (by omega) ?_
              refine WS.po (tb := tb) rfl rfl rfl rfl rfl ?_
              refine WS.pend rfl ?_
              refine WS.pseq rfl ?_
              refine WS.pseq rfl ?_
              refine WS.pregion rfl ?_
              refine WS.po (tb := tb) rfl rfl rfl rfl rfl ?_
              refine WS.po (tb := tb) rfl rfl rfl rfl rfl ?_
              refine WS.poDT (tb := tb) rfl rfl rfl rfl rfl (by omega) ?_
              refine WS.po (tb := tb) rfl rfl rfl rfl rfl ?_
              refine WS.po (tb := tb) rfl rfl rfl rfl rfl ?_
              refine WS.po (tb := tb) rfl rfl rfl rfl rfl ?_
              refine WS.pono rfl rfl rfl rfl ?_
              refine WS.pono rfl rfl rfl rfl ?_
              refine WS.pono rfl rfl rfl rfl ?_
              refine WS.pono rfl rfl rfl rfl ?_
              refine WS.pono rfl rfl rfl rfl ?_
              refine WS.pono rfl rfl rfl rfl ?_
              refine WS.pono rfl rfl rfl rfl ?_
              refine WS.pono rfl rfl rfl rfl ?_
              refine WS.pono rfl rfl rfl rfl ?_
              refine WS.po (tb := tb) rfl rfl rfl rfl rfl ?_
              refine WS.po (tb := tb) rfl rfl rfl rfl rfl ?_
              refine WS.po (tb := tb) rfl rfl rfl rfl rfl ?_
              refine WS.po (tb := tb) rfl rfl rfl rfl rfl ?_
              refine WS.poP (tb := tb) rfl rfl rfl rfl rfl (by simp only [List.getElem_toArray, List.getElem_cons_zero, List.getElem_cons_succ, Nat.zero_add, Nat.add_zero, Nat.reduceAdd, Nat.reduceMul, Nat.add_assoc, Nat.mul_one, Int.toNat_natCast, Int.reduceToNat, Int.toNat_zero, Nat.zero_mul]; exact rfl) ?_
              refine WS.po (tb := tb) rfl rfl rfl rfl rfl ?_
              refine WS.po (tb := tb) rfl rfl rfl rfl rfl ?_
              refine WS.pcallM (tb := tb) [0] G rfl rfl rfl rfl rfl (by (try simp only [mapL, mapV, List.getD_cons_zero, List.getD_cons_succ]); exact rfl) (by simp [okL, okV, mapM, roT]) rfl (by simp [embP, okL, okV, mapL, mapV, mem_next, mem_get, mem_ro, mapL_cellsR, okL_cellsR, mapM, roT]) rfl ?_; rintro _ _ ⟨rfl, rfl⟩ -; simp only [plugL, setsL, newsL, isOwn, ownB, over, mapL, mapV, List.getD_cons_zero, List.getD_cons_succ, List.set_cons_zero, List.set_cons_succ, List.length_cons, List.length_nil, Nat.reduceAdd, Nat.reduceLT, Nat.zero_add, if_true, if_false, Nat.reduceSub, reduceIte, List.map_cons, List.map_nil, List.append_nil, List.cons_append, List.nil_append, mapL_cellsR, Nat.lt_irrefl, Nat.not_lt_zero, Nat.zero_lt_succ, Nat.lt_add_one, mapM, roT]
              refine WS.po (tb := tb) rfl rfl rfl rfl rfl ?_
              refine WS.po (tb := tb) rfl rfl rfl rfl rfl ?_
              refine WS.pend rfl ?_
              refine WS.pcondF rfl rfl ?_
              refine WS.pskip rfl ?_
              refine WS.pregion rfl ?_
              refine WS.po (tb := tb) rfl rfl rfl rfl rfl ?_
              refine WS.po (tb := tb) rfl rfl rfl rfl rfl ?_
              refine WS.po (tb := tb) rfl rfl rfl rfl rfl ?_
              refine WS.po (tb := tb) rfl rfl rfl rfl rfl ?_
              refine WS.poP (tb := tb) rfl rfl rfl rfl rfl (by simp only [List.getElem_toArray, List.getElem_cons_zero, List.getElem_cons_succ, Nat.zero_add, Nat.add_zero, Nat.reduceAdd, Nat.reduceMul, Nat.add_assoc, Nat.mul_one, Int.toNat_natCast, Int.reduceToNat, Int.toNat_zero, Nat.zero_mul]; exact rfl) ?_
              refine WS.po (tb := tb) rfl rfl rfl rfl rfl ?_
              refine WS.po (tb := tb) rfl rfl rfl rfl rfl ?_
              refine WS.poP (tb := tb) rfl rfl rfl rfl (step_P (evP_index rfl rfl rfl rfl rfl rfl (by omega))) (by simp only [Nat.zero_add, Nat.add_zero, Nat.reduceAdd, Nat.reduceMul, Nat.add_assoc, Nat.mul_one]; exact rfl) ?_
              refine WS.po (tb := tb) rfl rfl rfl rfl (step_R rfl (evR_load rfl rfl rfl rfl (cellsI_get hx))) ?_
              refine WS.poA (tb := tb) rfl rfl rfl rfl rfl (by simp only [vcells, setL, List.set_cons_zero, List.set_cons_succ, List.getElem_toArray, List.getElem_cons_zero, List.getElem_cons_succ, Nat.zero_add, Nat.add_zero, Nat.reduceAdd, Nat.reduceMul, Nat.add_assoc, Nat.mul_one, Int.toNat_natCast, Int.reduceToNat, Int.toNat_zero, Nat.zero_mul]; exact rfl) ?_
              refine WS.po (tb := tb) rfl rfl rfl rfl rfl ?_; rw [new_mem]; simp only [List.cons_append, List.nil_append, vcells, mem_next, List.length_cons, List.length_nil, Nat.zero_add, Nat.reduceAdd, reps, List.append_nil, setL, List.set_cons_zero, List.set_cons_succ, Nat.zero_mul, Nat.reduceMul]
              refine WS.po (tb := tb) rfl rfl rfl rfl (step_H rfl rfl (evH_append_open rfl rfl rfl rfl rfl rfl rfl rfl rfl (by omega) rfl (Nat.zero_le _) (by omega) (cellsAt_all rfl rfl) (by first | exact rfl | (simp only [Run_len, vcells, List.length_cons, List.length_nil, cellsI_len, cellsB_len, List.length_set, List.length_replicate, List.length_append, List.length_map, List.length_take, List.length_drop]; omega) | omega) (by first | exact rfl | (simp only [Run_len, vcells, List.length_cons, List.length_nil, cellsI_len, cellsB_len, List.length_set, List.length_replicate, List.length_append, List.length_map, List.length_take, List.length_drop]; omega) | omega) rfl (by omega))) ?_; (try rw [upd_mem _ rfl]); (try rw [new_mem]); (try simp only [List.set_cons_zero, List.set_cons_succ, List.cons_append, List.nil_append, mem_next, List.length_cons, List.length_nil, Nat.zero_add, Nat.reduceAdd, List.drop_zero, vcells, cellsI_app1, cellsB_app1, cellsI_cons, repsI, repsB, Run_app1, Run_reps, mapM, roT])
              refine WS.po (tb := tb) rfl rfl rfl rfl rfl ?_
              refine WS.pend rfl ?_
              refine WS.pregion rfl ?_
              refine WS.po (tb := tb) rfl rfl rfl rfl rfl ?_
              refine WS.poW (tb := tb) rfl rfl rfl rfl rfl (by simp only [lo]; omega) (by simp only [Am.hi]; omega) ?_
              refine WS.po (tb := tb) rfl rfl rfl rfl rfl ?_
              refine WS.pend rfl ?_
              refine WS.nil ?_
              exact ⟨(k + 1, z :: (l ++ [(⟨(a + k : Nat), 1, x⟩ : Run)])), ⟨by dsimp only; omega, e⟩, by dsimp only; omega, (SeenBy.seen (v := [0,1,4]) ⟨rfl, rfl, (by simp [viewP, okL, okV, mapL, mapV, mem_get, mapL_cellsR, okL_cellsR, mapM, one_run, Nat.add_zero]), (by first | exact rfl | exact own2_dist rfl rfl), (by simp only [slotsP, okV, okL, mapV, mapL, and_true, true_and, List.length_cons, List.length_nil, List.length_append, List.length_map, Nat.reduceAdd, Nat.reduceLT, mapM, one_run, Nat.add_zero]; repeat' (first | exact rfl | refine ⟨?_, ?_⟩ | exact lk_m rfl (hmp _ rfl) | exact hok _ (Nat.le_of_ble_eq_true rfl) | exact lk_i rfl (by omega) | exact lk_sl rfl (by omega) (by omega) (by omega) | decide | omega))⟩)⟩
    · obtain rfl : k = n := by omega
      rcases L with _ | ⟨z, l⟩
      · exact absurd hL.symm (by obtain ⟨j, rfl⟩ : ∃ j, k = j + 1 := ⟨k - 1, by omega⟩; exact rngN_ne t a j)
      · simp only [mapM, List.cons_append, List.nil_append]
        refine WS.pseq rfl ?_
        refine WS.pseq rfl ?_
        refine WS.pregion rfl ?_
        refine WS.po (tb := tb) rfl rfl rfl rfl rfl ?_
        refine WS.po (tb := tb) rfl rfl rfl rfl rfl ?_
        refine WS.po (tb := tb) rfl rfl rfl rfl rfl ?_
        refine WS.poW (tb := tb) rfl rfl rfl rfl rfl (by simp only [lo]; omega) (by simp only [Am.hi]; omega) ?_
        refine WS.poDF (tb := tb) rfl rfl rfl rfl rfl (by omega) ?_
        refine WS.pend rfl ?_
        refine WS.pcondF rfl rfl ?_
        refine WS.pout rfl rfl ?_
        exact ⟨rfl, z :: l, hL, (SeenBy.seen (v := [0,1,2]) ⟨rfl, rfl, (by simp [viewP, okL, okV, mapL, mapV, mem_get, mapL_cellsR, okL_cellsR, mapM]), (by first | exact rfl | exact own2_dist rfl rfl), (by simp only [slotsP, okV, okL, mapV, mapL, and_true, true_and, List.length_cons, List.length_nil, List.length_append, List.length_map, Nat.reduceAdd, Nat.reduceLT, mapM]; repeat' (first | exact rfl | refine ⟨?_, ?_⟩ | exact lk_m rfl (hmp _ rfl) | exact hok _ (Nat.le_of_ble_eq_true rfl) | exact lk_i rfl (by omega) | exact lk_sl rfl (by omega) (by omega) (by omega) | decide | omega))⟩)⟩
  · rintro b hbq
    rw [← hbq]
    rcases b with _ | ⟨z, l⟩
    · exact absurd hbq.symm (by obtain ⟨j, rfl⟩ : ∃ j, n = j + 1 := ⟨n - 1, by omega⟩; exact rngN_ne t a j)
    · simp only [mapM, List.cons_append, List.nil_append]
      refine WS.pseq rfl ?_
      refine WS.pregion rfl ?_
      refine WS.po (tb := tb) rfl rfl rfl rfl rfl ?_
      refine WS.po (tb := tb) rfl rfl rfl rfl rfl ?_
      refine WS.po (tb := tb) rfl rfl rfl rfl rfl ?_
      refine WS.pend rfl ?_
      refine WS.pret rfl ⟨.inr rfl, _, rfl, ?_⟩
      exact ⟨_, rfl, [0,1,2], mapM t most q ++ [some ⟨cellsR rwRun (z :: l), 56, true⟩], .tup [.sl (some (2,0)) (l.length + 1) (l.length + 1) true, .i .i64 0], ⟨rfl, rfl, (by simp [viewP, okL, okV, mapL, mapV, mem_get, mapL_cellsR, okL_cellsR, mapM]), rfl⟩, rfl, by simp [okV, okL, mapM], rfl, rfl⟩
end Go.Proofs.Ythhmapgolnkjcaa.Am

