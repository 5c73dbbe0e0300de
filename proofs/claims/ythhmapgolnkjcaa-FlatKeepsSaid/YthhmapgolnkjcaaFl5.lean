/- The runs that a flat map tells, and those of the reference, walked. Conditions: those of each theorem. -/
import Derived.Test.YthhmapgolnkjcaaFl4
namespace Go.Proofs.Ythhmapgolnkjcaa.Am
open Go.Proofs
set_option maxRecDepth 1000000
set_option maxHeartbeats 4000000
set_option linter.unusedSimpArgs false
set_option linter.unusedVariables false

theorem runs_walk (t : List Int) (most : Int) (q : Bool) (hl : t.length ≤ 1000) (hb : Bnd t) : FM Try.prog 27 [.p (some (1,0))] (mapM t most q) (fun v M' => v = (match runsN t t.length with | [] => .sl none 0 0 false | x :: l => .sl (some (2,0)) (l.length + 1) (l.length + 1) true) ∧ M' = mapM t most q ++ [match runsN t t.length with | [] => none | x :: l => some ⟨cellsR rwRun (x :: l), 55, true⟩]) := by
  refine FM.pbodyV (tb := tb) (fn := Try.f27) rfl rfl ?_
  simp only [argS, Nat.reduceAdd, mapM, List.length_cons, List.length_nil]
  refine WS.pseq rfl ?_
  refine WS.pregion rfl ?_
  refine WS.po (tb := tb) rfl rfl rfl rfl rfl ?_
  refine WS.pend rfl ?_
  refine WS.pseq rfl ?_
  refine WS.pregion rfl ?_
  refine WS.po (tb := tb) rfl rfl rfl rfl rfl ?_
  refine WS.pend rfl ?_
  refine WS.pseq rfl ?_
  refine WS.pseq rfl ?_
  refine WS.pregion rfl ?_
  refine WS.po (tb := tb) rfl rfl rfl rfl rfl ?_
  refine WS.po (tb := tb) rfl rfl rfl rfl rfl ?_
  refine WS.poP (tb := tb) rfl rfl rfl rfl rfl (by simp only [List.getElem_toArray, List.getElem_cons_zero, List.getElem_cons_succ, Nat.zero_add, Nat.add_zero, Nat.reduceAdd, Nat.reduceMul, Nat.add_assoc, Nat.mul_one, Int.toNat_natCast, Int.reduceToNat, Int.toNat_zero, Nat.zero_mul]; exact rfl) ?_
  refine WS.po (tb := tb) rfl rfl rfl rfl rfl ?_
  refine WS.po (tb := tb) rfl rfl rfl rfl rfl ?_
  refine WS.po (tb := tb) rfl rfl rfl rfl rfl ?_
  refine WS.pend rfl ?_
  refine WS.pblock rfl ?_
  refine WS.ploopI (σ := Nat × List Run) (τ := List Run) (fun a => [(0, .p (some (1,0))), (9, .sl (some (0,0)) t.length t.length q), (10, .i .i64 t.length), (11, .i .i64 a.1), (3, match a.2 with | [] => .sl none 0 0 false | x :: l => .sl (some (2,0)) (l.length + 1) (l.length + 1) true)]) (fun a => mapM t most q ++ [match a.2 with | [] => none | x :: l => some ⟨cellsR rwRun (x :: l), 55, true⟩]) (fun a => a.1 ≤ t.length ∧ a.2 = runsN t a.1) (fun a => t.length - a.1)
    (fun b => [(3, match b with | [] => .sl none 0 0 false | x :: l => .sl (some (2,0)) (l.length + 1) (l.length + 1) true)]) (fun b => mapM t most q ++ [match b with | [] => none | x :: l => some ⟨cellsR rwRun (x :: l), 55, true⟩]) (fun b => b = runsN t t.length) 0 [0,1,2] (0, []) rfl ⟨Nat.zero_le _, rfl⟩ ⟨rfl, rfl, (by simp [viewP, okL, okV, mapL, mapV, mem_get, mapL_cellsR, okL_cellsR, mapM, reps]), (by first | exact rfl | exact own2_dist rfl rfl), (by simp only [slotsP, okV, okL, mapV, mapL, and_true, true_and, List.length_cons, List.length_nil, List.length_append, List.length_map, Nat.reduceAdd, Nat.reduceLT, mapM, reps]; repeat' (first | exact rfl | refine ⟨?_, ?_⟩ | exact lk_m rfl (hmp _ rfl) | exact hok _ (Nat.le_of_ble_eq_true rfl) | exact lk_i rfl (by omega) | exact lk_sl rfl (by omega) (by omega) (by omega) | decide | omega))⟩ rfl ?_ ?_
  · rintro ⟨i, L⟩ ⟨hi, hL⟩
    dsimp only at hi hL
    have hle := runsN_le t i
    rw [← hL] at hle
    by_cases h : i < t.length
    · obtain ⟨x, hx⟩ : ∃ x, t[i]? = some x := ⟨_, List.getElem?_eq_getElem h⟩
      have gx := getD_of hx
      have bx := hb x (List.mem_of_getElem? hx)
      have hlens := runsN_lens t i
      rw [← hL] at hlens
      have G := goesOn_walk t i t.length q h hl hb
      obtain ⟨y, hy⟩ : ∃ y, 0 < i → t[i - 1]? = some y := by
        by_cases h0 : 0 < i
        · exact ⟨t[i - 1]'(by omega), fun _ => List.getElem?_eq_getElem (by omega)⟩
        · exact ⟨0, fun h => absurd h h0⟩
      have bY : 0 < i → -1 ≤ y ∧ y ≤ 1100000 := fun h0 => hb y (List.mem_of_getElem? (hy h0))
      have gy : 0 < i → t.getD (i - 1) 0 = y := fun h0 => getD_of (hy h0)
      have eI : 0 < i → (i : Int) - 1 = ((i - 1 : Nat) : Int) := fun h0 => by omega
      by_cases h1 : x < 0
      · have e : L = runsN t (i + 1) := by simp only [runsN]; rw [gx, if_pos h1]; exact hL
        rcases L with _ | ⟨z, l⟩
        · simp only [mapM, List.cons_append, List.nil_append]
          refine WS.pseq rfl ?_
          refine WS.pregion rfl ?_
          refine WS.poDT (tb := tb) rfl rfl rfl rfl rfl (by omega) ?_
          refine WS.pend rfl ?_
          refine WS.pseq rfl ?_
          refine WS.pcondT rfl rfl ?_
          refine WS.pskip rfl ?_
          refine WS.pseq rfl ?_
          refine WS.pblock rfl ?_
          refine WS.pseq rfl ?_
          refine WS.pregion rfl ?_
          refine WS.po (tb := tb) rfl rfl rfl rfl rfl ?_
          refine WS.poP (tb := tb) rfl rfl rfl rfl (step_P (evP_index rfl rfl rfl rfl rfl rfl (by omega))) (by simp only [Nat.zero_add, Nat.add_zero, Nat.reduceAdd, Nat.reduceMul, Nat.add_assoc, Nat.mul_one]; exact rfl) ?_
          refine WS.po (tb := tb) rfl rfl rfl rfl (step_R rfl (evR_load rfl rfl rfl rfl (cellsI_get hx))) ?_
          refine WS.po (tb := tb) rfl rfl rfl rfl rfl ?_
          refine WS.po (tb := tb) rfl rfl rfl rfl rfl ?_
          refine WS.pend rfl ?_
          refine WS.pblock rfl ?_
          refine WS.pseq rfl ?_
          refine WS.pregion rfl ?_
          refine WS.po (tb := tb) rfl rfl rfl rfl rfl ?_
          refine WS.poDT (tb := tb) rfl rfl rfl rfl rfl (by omega) ?_
          refine WS.po (tb := tb) rfl rfl rfl rfl rfl ?_
          refine WS.pend rfl ?_
          refine WS.pcondT rfl rfl ?_
          refine WS.pskip rfl ?_
          refine WS.pregion rfl ?_
          refine WS.poW (tb := tb) rfl rfl rfl rfl rfl (by simp only [lo]; omega) (by simp only [Am.hi]; omega) ?_
          refine WS.po (tb := tb) rfl rfl rfl rfl rfl ?_
          refine WS.pend rfl ?_
          refine WS.nil ?_
          exact ⟨(i + 1, []), ⟨by dsimp only; omega, e⟩, by dsimp only; omega, (SeenBy.seen (v := [0,1,2]) ⟨rfl, rfl, (by simp [viewP, okL, okV, mapL, mapV, mem_get, mapL_cellsR, okL_cellsR, mapM]), (by first | exact rfl | exact own2_dist rfl rfl), (by simp only [slotsP, okV, okL, mapV, mapL, and_true, true_and, List.length_cons, List.length_nil, List.length_append, List.length_map, Nat.reduceAdd, Nat.reduceLT, mapM]; repeat' (first | exact rfl | refine ⟨?_, ?_⟩ | exact lk_m rfl (hmp _ rfl) | exact hok _ (Nat.le_of_ble_eq_true rfl) | exact lk_i rfl (by omega) | exact lk_sl rfl (by omega) (by omega) (by omega) | decide | omega))⟩)⟩
        · simp only [mapM, List.cons_append, List.nil_append]
          refine WS.pseq rfl ?_
          refine WS.pregion rfl ?_
          refine WS.poDT (tb := tb) rfl rfl rfl rfl rfl (by omega) ?_
          refine WS.pend rfl ?_
          refine WS.pseq rfl ?_
          refine WS.pcondT rfl rfl ?_
          refine WS.pskip rfl ?_
          refine WS.pseq rfl ?_
          refine WS.pblock rfl ?_
          refine WS.pseq rfl ?_
          refine WS.pregion rfl ?_
          refine WS.po (tb := tb) rfl rfl rfl rfl rfl ?_
          refine WS.poP (tb := tb) rfl rfl rfl rfl (step_P (evP_index rfl rfl rfl rfl rfl rfl (by omega))) (by simp only [Nat.zero_add, Nat.add_zero, Nat.reduceAdd, Nat.reduceMul, Nat.add_assoc, Nat.mul_one]; exact rfl) ?_
          refine WS.po (tb := tb) rfl rfl rfl rfl (step_R rfl (evR_load rfl rfl rfl rfl (cellsI_get hx))) ?_
          refine WS.po (tb := tb) rfl rfl rfl rfl rfl ?_
          refine WS.po (tb := tb) rfl rfl rfl rfl rfl ?_
          refine WS.pend rfl ?_
          refine WS.pblock rfl ?_
          refine WS.pseq rfl ?_
          refine WS.pregion rfl ?_
          refine WS.po (tb := tb) rfl rfl rfl rfl rfl ?_
          refine WS.poDT (tb := tb) rfl rfl rfl rfl rfl (by omega) ?_
          refine WS.po (tb := tb) rfl rfl rfl rfl rfl ?_
          refine WS.pend rfl ?_
          refine WS.pcondT rfl rfl ?_
          refine WS.pskip rfl ?_
          refine WS.pregion rfl ?_
          refine WS.poW (tb := tb) rfl rfl rfl rfl rfl (by simp only [lo]; omega) (by simp only [Am.hi]; omega) ?_
          refine WS.po (tb := tb) rfl rfl rfl rfl rfl ?_
          refine WS.pend rfl ?_
          refine WS.nil ?_
          exact ⟨(i + 1, z :: l), ⟨by dsimp only; omega, e⟩, by dsimp only; omega, (SeenBy.seen (v := [0,1,2]) ⟨rfl, rfl, (by simp [viewP, okL, okV, mapL, mapV, mem_get, mapL_cellsR, okL_cellsR, mapM]), (by first | exact rfl | exact own2_dist rfl rfl), (by simp only [slotsP, okV, okL, mapV, mapL, and_true, true_and, List.length_cons, List.length_nil, List.length_append, List.length_map, Nat.reduceAdd, Nat.reduceLT, mapM]; repeat' (first | exact rfl | refine ⟨?_, ?_⟩ | exact lk_m rfl (hmp _ rfl) | exact hok _ (Nat.le_of_ble_eq_true rfl) | exact lk_i rfl (by omega) | exact lk_sl rfl (by omega) (by omega) (by omega) | decide | omega))⟩)⟩
      · cases hg : gOn t i with
        | true =>
          rw [hg] at G
          have hgo := hg
          simp only [gOn, decide_eq_true_eq] at hgo
          obtain ⟨h0, _, hg2, hg3⟩ := hgo
          have hy := hy h0
          have gy := gy h0
          have bY := bY h0
          have eI := eI h0
          rw [gx, gy] at hg3
          rw [gy] at hg2
          rcases L with _ | ⟨z, l⟩
          · exact absurd hL.symm (by
              obtain ⟨j, rfl⟩ : ∃ j, i = j + 1 := ⟨i - 1, by omega⟩
              exact runsN_ne t j (by simpa using (by rw [← gy] at hg2; exact hg2)))
          · obtain ⟨r, y', l', hr, hrm, hbm, hbc, hbl⟩ := bump_cons z l
            have hrl := hlens r hrm
            simp only [List.length_cons] at hle
            have e : bump (z :: l) = runsN t (i + 1) := by simp only [runsN]; rw [gx, if_neg h1, if_pos hg, ← hL]
            have hs := Run_set_len hr (r.len + 1)
            rw [← hbm, hbc] at hs
            have eL : (((l.length + 1 : Nat) : Int)) - 1 = (l.length : Int) := by omega
            simp only [mapM, List.cons_append, List.nil_append]
            refine WS.pseq rfl ?_
            refine WS.pregion rfl ?_
            refine WS.poDT (tb := tb) rfl rfl rfl rfl rfl (by omega) ?_
            refine WS.pend rfl ?_
            refine WS.pseq rfl ?_
            refine WS.pcondT rfl rfl ?_
            refine WS.pskip rfl ?_
            refine WS.pseq rfl ?_
            refine WS.pblock rfl ?_
            refine WS.pseq rfl ?_
            refine WS.pregion rfl ?_
            refine WS.po (tb := tb) rfl rfl rfl rfl rfl ?_
            refine WS.poP (tb := tb) rfl rfl rfl rfl (step_P (evP_index rfl rfl rfl rfl rfl rfl (by omega))) (by simp only [Nat.zero_add, Nat.add_zero, Nat.reduceAdd, Nat.reduceMul, Nat.add_assoc, Nat.mul_one]; exact rfl) ?_
            refine WS.po (tb := tb) rfl rfl rfl rfl (step_R rfl (evR_load rfl rfl rfl rfl (cellsI_get hx))) ?_
            refine WS.po (tb := tb) rfl rfl rfl rfl rfl ?_
            refine WS.po (tb := tb) rfl rfl rfl rfl rfl ?_
            refine WS.pend rfl ?_
            refine WS.pblock rfl ?_
            refine WS.pseq rfl ?_
            refine WS.pregion rfl ?_
            refine WS.po (tb := tb) rfl rfl rfl rfl rfl ?_
            refine WS.poDF (tb := tb) rfl rfl rfl rfl rfl (by omega) ?_
            refine WS.po (tb := tb) rfl rfl rfl rfl rfl ?_
            refine WS.pend rfl ?_
            refine WS.pcondF rfl rfl ?_
            refine WS.pseq rfl ?_
            refine WS.pregion rfl ?_
            refine WS.po (tb := tb) rfl rfl rfl rfl rfl ?_
            refine WS.po (tb := tb) rfl rfl rfl rfl rfl ?_
            refine WS.poP (tb := tb) rfl rfl rfl rfl rfl (by simp only [List.getElem_toArray, List.getElem_cons_zero, List.getElem_cons_succ, Nat.zero_add, Nat.add_zero, Nat.reduceAdd, Nat.reduceMul, Nat.add_assoc, Nat.mul_one, Int.toNat_natCast, Int.reduceToNat, Int.toNat_zero, Nat.zero_mul]; exact rfl) ?_
            refine WS.po (tb := tb) rfl rfl rfl rfl rfl ?_
            refine WS.po (tb := tb) rfl rfl rfl rfl rfl ?_
            refine WS.pcallM (tb := tb) [0] G rfl rfl rfl rfl rfl (by (try simp only [mapL, mapV, List.getD_cons_zero, List.getD_cons_succ]); exact rfl) (by simp [okL, okV, mapM, roT]) rfl (by simp [embP, okL, okV, mapL, mapV, mem_next, mem_get, mem_ro, mapL_cellsR, okL_cellsR, mapM, roT]) rfl ?_; rintro _ _ ⟨rfl, rfl⟩ -; simp only [plugL, setsL, newsL, isOwn, ownB, over, mapL, mapV, List.getD_cons_zero, List.getD_cons_succ, List.set_cons_zero, List.set_cons_succ, List.length_cons, List.length_nil, Nat.reduceAdd, Nat.reduceLT, Nat.zero_add, if_true, if_false, Nat.reduceSub, reduceIte, List.map_cons, List.map_nil, List.append_nil, List.cons_append, List.nil_append, mapL_cellsR, Nat.lt_irrefl, Nat.not_lt_zero, Nat.zero_lt_succ, Nat.lt_add_one, mapM, roT]
            refine WS.po (tb := tb) rfl rfl rfl rfl rfl ?_
            refine WS.pend rfl ?_
            refine WS.pcondT rfl rfl ?_
            refine WS.pregion rfl ?_
            refine WS.po (tb := tb) rfl rfl rfl rfl rfl ?_
            refine WS.po (tb := tb) rfl rfl rfl rfl rfl ?_
            refine WS.po (tb := tb) rfl rfl rfl rfl rfl ?_
            refine WS.poW (tb := tb) rfl rfl rfl rfl rfl (by simp only [lo]; omega) (by simp only [Am.hi]; omega) ?_
            refine WS.poP (tb := tb) rfl rfl rfl rfl (step_P (evP_index rfl rfl rfl rfl rfl (by assumption) (by omega))) (by simp only [List.getElem_toArray, List.getElem_cons_zero, List.getElem_cons_succ, Nat.zero_add, Nat.add_zero, Nat.reduceAdd, Nat.reduceMul, Nat.add_assoc, Nat.mul_one, Int.toNat_natCast, Int.reduceToNat, Int.toNat_zero, Nat.zero_mul]; exact rfl) ?_
            refine WS.poP (tb := tb) rfl rfl rfl rfl rfl (by simp only [List.getElem_toArray, List.getElem_cons_zero, List.getElem_cons_succ, Nat.zero_add, Nat.add_zero, Nat.reduceAdd, Nat.reduceMul, Nat.add_assoc, Nat.mul_one, Int.toNat_natCast, Int.reduceToNat, Int.toNat_zero, Nat.zero_mul]; exact rfl) ?_
            refine WS.po (tb := tb) rfl rfl rfl rfl (step_R rfl (evR_load rfl rfl rfl rfl (cellsR_get hr rfl))) ?_
            refine WS.poW (tb := tb) rfl rfl rfl rfl rfl (by simp only [lo]; omega) (by simp only [Am.hi]; omega) ?_
            refine WS.poP (tb := tb) rfl rfl rfl rfl (step_P (evP_index rfl rfl rfl rfl rfl (by assumption) (by omega))) (by simp only [List.getElem_toArray, List.getElem_cons_zero, List.getElem_cons_succ, Nat.zero_add, Nat.add_zero, Nat.reduceAdd, Nat.reduceMul, Nat.add_assoc, Nat.mul_one, Int.toNat_natCast, Int.reduceToNat, Int.toNat_zero, Nat.zero_mul]; exact rfl) ?_
            refine WS.poP (tb := tb) rfl rfl rfl rfl rfl (by simp only [List.getElem_toArray, List.getElem_cons_zero, List.getElem_cons_succ, Nat.zero_add, Nat.add_zero, Nat.reduceAdd, Nat.reduceMul, Nat.add_assoc, Nat.mul_one, Int.toNat_natCast, Int.reduceToNat, Int.toNat_zero, Nat.zero_mul]; exact rfl) ?_
            refine WS.po0 (tb := tb) rfl rfl rfl rfl (step_H rfl rfl (evH_store rfl rfl rfl rfl rfl (Nat.zero_le _) rfl (by simp [vcells]) (by simp only [Run_len, vcells, List.length_cons, List.length_nil, cellsI_len, cellsB_len, List.length_set, List.length_replicate, List.length_append, List.length_map, List.length_take, List.length_drop]; omega))) ?_; rw [upd_mem _ rfl]; simp only [vcells, List.set_cons_zero, List.set_cons_succ, hs, mapM, roT]; (try simp only [setL, List.set_cons_zero, List.set_cons_succ])
            refine WS.pend rfl ?_
            refine WS.pregion rfl ?_
            refine WS.poW (tb := tb) rfl rfl rfl rfl rfl (by simp only [lo]; omega) (by simp only [Am.hi]; omega) ?_
            refine WS.po (tb := tb) rfl rfl rfl rfl rfl ?_
            refine WS.pend rfl ?_
            refine WS.nil ?_
            exact ⟨(i + 1, y' :: l'), ⟨by dsimp only; omega, by rw [← hbc]; exact e⟩, by dsimp only; omega, (SeenBy.seen (v := [0,1,2]) ⟨rfl, rfl, (by simp [viewP, okL, okV, mapL, mapV, mem_get, mapL_cellsR, okL_cellsR, mapM, hbl]), (by first | exact rfl | exact own2_dist rfl rfl), (by simp only [slotsP, okV, okL, mapV, mapL, and_true, true_and, List.length_cons, List.length_nil, List.length_append, List.length_map, Nat.reduceAdd, Nat.reduceLT, mapM, hbl]; repeat' (first | exact rfl | refine ⟨?_, ?_⟩ | exact lk_m rfl (hmp _ rfl) | exact hok _ (Nat.le_of_ble_eq_true rfl) | exact lk_i rfl (by omega) | exact lk_sl rfl (by omega) (by omega) (by omega) | decide | omega))⟩)⟩
        | false =>
          rw [hg] at G
          have e : L ++ [⟨i, 1, x⟩] = runsN t (i + 1) := by simp only [runsN]; rw [gx, if_neg h1, if_neg (by simp [hg]), ← hL]
          have hgo := hg
          simp only [gOn, decide_eq_false_iff_not] at hgo
          have hng : 0 < i → 0 ≤ y → y + 1 = x → False := fun a1 a2 a3 => hgo ⟨a1, by rw [gx]; omega, by rw [gy a1]; exact a2, by rw [gx, gy a1]; omega⟩
          rcases L with _ | ⟨z, l⟩
          · simp only [mapM, List.cons_append, List.nil_append]
            refine WS.pseq rfl ?_
            refine WS.pregion rfl ?_
            refine WS.poDT (tb := tb) rfl rfl rfl rfl rfl (by omega) ?_
            refine WS.pend rfl ?_
            refine WS.pseq rfl ?_
            refine WS.pcondT rfl rfl ?_
            refine WS.pskip rfl ?_
            refine WS.pseq rfl ?_
            refine WS.pblock rfl ?_
            refine WS.pseq rfl ?_
            refine WS.pregion rfl ?_
            refine WS.po (tb := tb) rfl rfl rfl rfl rfl ?_
            refine WS.poP (tb := tb) rfl rfl rfl rfl (step_P (evP_index rfl rfl rfl rfl rfl rfl (by omega))) (by simp only [Nat.zero_add, Nat.add_zero, Nat.reduceAdd, Nat.reduceMul, Nat.add_assoc, Nat.mul_one]; exact rfl) ?_
            refine WS.po (tb := tb) rfl rfl rfl rfl (step_R rfl (evR_load rfl rfl rfl rfl (cellsI_get hx))) ?_
            refine WS.po (tb := tb) rfl rfl rfl rfl rfl ?_
            refine WS.po (tb := tb) rfl rfl rfl rfl rfl ?_
            refine WS.pend rfl ?_
            refine WS.pblock rfl ?_
            refine WS.pseq rfl ?_
            refine WS.pregion rfl ?_
            refine WS.po (tb := tb) rfl rfl rfl rfl rfl ?_
            refine WS.poDF (tb := tb) rfl rfl rfl rfl rfl (by omega) ?_
            refine WS.po (tb := tb) rfl rfl rfl rfl rfl ?_
            refine WS.pend rfl ?_
            refine WS.pcondF rfl rfl ?_
            refine WS.pseq rfl ?_
            refine WS.pregion rfl ?_
            refine WS.po (tb := tb) rfl rfl rfl rfl rfl ?_
            refine WS.po (tb := tb) rfl rfl rfl rfl rfl ?_
            refine WS.poP (tb := tb) rfl rfl rfl rfl rfl (by simp only [List.getElem_toArray, List.getElem_cons_zero, List.getElem_cons_succ, Nat.zero_add, Nat.add_zero, Nat.reduceAdd, Nat.reduceMul, Nat.add_assoc, Nat.mul_one, Int.toNat_natCast, Int.reduceToNat, Int.toNat_zero, Nat.zero_mul]; exact rfl) ?_
            refine WS.po (tb := tb) rfl rfl rfl rfl rfl ?_
            refine WS.po (tb := tb) rfl rfl rfl rfl rfl ?_
            refine WS.pcallM (tb := tb) [0] G rfl rfl rfl rfl rfl (by (try simp only [mapL, mapV, List.getD_cons_zero, List.getD_cons_succ]); exact rfl) (by simp [okL, okV, mapM, roT]) rfl (by simp [embP, okL, okV, mapL, mapV, mem_next, mem_get, mem_ro, mapL_cellsR, okL_cellsR, mapM, roT]) rfl ?_; rintro _ _ ⟨rfl, rfl⟩ -; simp only [plugL, setsL, newsL, isOwn, ownB, over, mapL, mapV, List.getD_cons_zero, List.getD_cons_succ, List.set_cons_zero, List.set_cons_succ, List.length_cons, List.length_nil, Nat.reduceAdd, Nat.reduceLT, Nat.zero_add, if_true, if_false, Nat.reduceSub, reduceIte, List.map_cons, List.map_nil, List.append_nil, List.cons_append, List.nil_append, mapL_cellsR, Nat.lt_irrefl, Nat.not_lt_zero, Nat.zero_lt_succ, Nat.lt_add_one, mapM, roT]
            refine WS.po (tb := tb) rfl rfl rfl rfl rfl ?_
            refine WS.pend rfl ?_
            refine WS.pcondF rfl rfl ?_
            refine WS.pregion rfl ?_
            refine WS.po (tb := tb) rfl rfl rfl rfl rfl ?_
            refine WS.po (tb := tb) rfl rfl rfl rfl rfl ?_
            refine WS.po (tb := tb) rfl rfl rfl rfl rfl ?_
            refine WS.poA (tb := tb) rfl rfl rfl rfl rfl (by simp only [vcells, setL, List.set_cons_zero, List.set_cons_succ, List.getElem_toArray, List.getElem_cons_zero, List.getElem_cons_succ, Nat.zero_add, Nat.add_zero, Nat.reduceAdd, Nat.reduceMul, Nat.add_assoc, Nat.mul_one, Int.toNat_natCast, Int.reduceToNat, Int.toNat_zero, Nat.zero_mul]; exact rfl) ?_
            refine WS.po (tb := tb) rfl rfl rfl rfl rfl ?_; rw [new_mem]; simp only [List.cons_append, List.nil_append, vcells, mem_next, List.length_cons, List.length_nil, Nat.zero_add, Nat.reduceAdd, reps, List.append_nil, setL, List.set_cons_zero, List.set_cons_succ, Nat.zero_mul, Nat.reduceMul]
            refine WS.po (tb := tb) rfl rfl rfl rfl (step_H rfl rfl (evH_append_nil rfl rfl rfl rfl rfl rfl rfl rfl rfl rfl (by omega) (by omega) (cellsAt_all rfl rfl) (by first | exact rfl | (simp only [Run_len, vcells, List.length_cons, List.length_nil, cellsI_len, cellsB_len, List.length_set, List.length_replicate, List.length_append, List.length_map, List.length_take, List.length_drop]; omega) | omega) (by omega))) ?_; (try rw [upd_mem _ rfl]); (try rw [new_mem]); (try simp only [List.set_cons_zero, List.set_cons_succ, List.cons_append, List.nil_append, mem_next, List.length_cons, List.length_nil, Nat.zero_add, Nat.reduceAdd, List.drop_zero, vcells, cellsI_app1, cellsB_app1, cellsI_cons, repsI, repsB, Run_app1, Run_reps, mapM, roT])
            refine WS.po (tb := tb) rfl rfl rfl rfl rfl ?_
            refine WS.pend rfl ?_
            refine WS.pregion rfl ?_
            refine WS.poW (tb := tb) rfl rfl rfl rfl rfl (by simp only [lo]; omega) (by simp only [Am.hi]; omega) ?_
            refine WS.po (tb := tb) rfl rfl rfl rfl rfl ?_
            refine WS.pend rfl ?_
            refine WS.nil ?_
            exact ⟨(i + 1, [(⟨i, 1, x⟩ : Run)]), ⟨by dsimp only; omega, e⟩, by dsimp only; omega, (SeenBy.seen (v := [0,1,4]) ⟨rfl, rfl, (by simp [viewP, okL, okV, mapL, mapV, mem_get, mapL_cellsR, okL_cellsR, mapM, one_run]), (by first | exact rfl | exact own2_dist rfl rfl), (by simp only [slotsP, okV, okL, mapV, mapL, and_true, true_and, List.length_cons, List.length_nil, List.length_append, List.length_map, Nat.reduceAdd, Nat.reduceLT, mapM, one_run]; repeat' (first | exact rfl | refine ⟨?_, ?_⟩ | exact lk_m rfl (hmp _ rfl) | exact hok _ (Nat.le_of_ble_eq_true rfl) | exact lk_i rfl (by omega) | exact lk_sl rfl (by omega) (by omega) (by omega) | decide | omega))⟩)⟩
          · simp only [List.length_cons] at hle
            simp only [mapM, List.cons_append, List.nil_append]
            refine WS.pseq rfl ?_
            refine WS.pregion rfl ?_
            refine WS.poDT (tb := tb) rfl rfl rfl rfl rfl (by omega) ?_
            refine WS.pend rfl ?_
            refine WS.pseq rfl ?_
            refine WS.pcondT rfl rfl ?_
            refine WS.pskip rfl ?_
            refine WS.pseq rfl ?_
            refine WS.pblock rfl ?_
            refine WS.pseq rfl ?_
            refine WS.pregion rfl ?_
            refine WS.po (tb := tb) rfl rfl rfl rfl rfl ?_
            refine WS.poP (tb := tb) rfl rfl rfl rfl (step_P (evP_index rfl rfl rfl rfl rfl rfl (by omega))) (by simp only [Nat.zero_add, Nat.add_zero, Nat.reduceAdd, Nat.reduceMul, Nat.add_assoc, Nat.mul_one]; exact rfl) ?_
            refine WS.po (tb := tb) rfl rfl rfl rfl (step_R rfl (evR_load rfl rfl rfl rfl (cellsI_get hx))) ?_
            refine WS.po (tb := tb) rfl rfl rfl rfl rfl ?_
            refine WS.po (tb := tb) rfl rfl rfl rfl rfl ?_
            refine WS.pend rfl ?_
            refine WS.pblock rfl ?_
            refine WS.pseq rfl ?_
            refine WS.pregion rfl ?_
            refine WS.po (tb := tb) rfl rfl rfl rfl rfl ?_
            refine WS.poDF (tb := tb) rfl rfl rfl rfl rfl (by omega) ?_
            refine WS.po (tb := tb) rfl rfl rfl rfl rfl ?_
            refine WS.pend rfl ?_
            refine WS.pcondF rfl rfl ?_
            refine WS.pseq rfl ?_
            refine WS.pregion rfl ?_
            refine WS.po (tb := tb) rfl rfl rfl rfl rfl ?_
            refine WS.po (tb := tb) rfl rfl rfl rfl rfl ?_
            refine WS.poP (tb := tb) rfl rfl rfl rfl rfl (by simp only [List.getElem_toArray, List.getElem_cons_zero, List.getElem_cons_succ, Nat.zero_add, Nat.add_zero, Nat.reduceAdd, Nat.reduceMul, Nat.add_assoc, Nat.mul_one, Int.toNat_natCast, Int.reduceToNat, Int.toNat_zero, Nat.zero_mul]; exact rfl) ?_
            refine WS.po (tb := tb) rfl rfl rfl rfl rfl ?_
            refine WS.po (tb := tb) rfl rfl rfl rfl rfl ?_
            refine WS.pcallM (tb := tb) [0] G rfl rfl rfl rfl rfl (by (try simp only [mapL, mapV, List.getD_cons_zero, List.getD_cons_succ]); exact rfl) (by simp [okL, okV, mapM, roT]) rfl (by simp [embP, okL, okV, mapL, mapV, mem_next, mem_get, mem_ro, mapL_cellsR, okL_cellsR, mapM, roT]) rfl ?_; rintro _ _ ⟨rfl, rfl⟩ -; simp only [plugL, setsL, newsL, isOwn, ownB, over, mapL, mapV, List.getD_cons_zero, List.getD_cons_succ, List.set_cons_zero, List.set_cons_succ, List.length_cons, List.length_nil, Nat.reduceAdd, Nat.reduceLT, Nat.zero_add, if_true, if_false, Nat.reduceSub, reduceIte, List.map_cons, List.map_nil, List.append_nil, List.cons_append, List.nil_append, mapL_cellsR, Nat.lt_irrefl, Nat.not_lt_zero, Nat.zero_lt_succ, Nat.lt_add_one, mapM, roT]
            refine WS.po (tb := tb) rfl rfl rfl rfl rfl ?_
            refine WS.pend rfl ?_
            refine WS.pcondF rfl rfl ?_
            refine WS.pregion rfl ?_
            refine WS.po (tb := tb) rfl rfl rfl rfl rfl ?_
            refine WS.po (tb := tb) rfl rfl rfl rfl rfl ?_
            refine WS.po (tb := tb) rfl rfl rfl rfl rfl ?_
            refine WS.poA (tb := tb) rfl rfl rfl rfl rfl (by simp only [vcells, setL, List.set_cons_zero, List.set_cons_succ, List.getElem_toArray, List.getElem_cons_zero, List.getElem_cons_succ, Nat.zero_add, Nat.add_zero, Nat.reduceAdd, Nat.reduceMul, Nat.add_assoc, Nat.mul_one, Int.toNat_natCast, Int.reduceToNat, Int.toNat_zero, Nat.zero_mul]; exact rfl) ?_
            refine WS.po (tb := tb) rfl rfl rfl rfl rfl ?_; rw [new_mem]; simp only [List.cons_append, List.nil_append, vcells, mem_next, List.length_cons, List.length_nil, Nat.zero_add, Nat.reduceAdd, reps, List.append_nil, setL, List.set_cons_zero, List.set_cons_succ, Nat.zero_mul, Nat.reduceMul]
            refine WS.po (tb := tb) rfl rfl rfl rfl (step_H rfl rfl (evH_append_open rfl rfl rfl rfl rfl rfl rfl rfl rfl (by omega) rfl (Nat.zero_le _) (by omega) (cellsAt_all rfl rfl) (by first | exact rfl | (simp only [Run_len, vcells, List.length_cons, List.length_nil, cellsI_len, cellsB_len, List.length_set, List.length_replicate, List.length_append, List.length_map, List.length_take, List.length_drop]; omega) | omega) (by first | exact rfl | (simp only [Run_len, vcells, List.length_cons, List.length_nil, cellsI_len, cellsB_len, List.length_set, List.length_replicate, List.length_append, List.length_map, List.length_take, List.length_drop]; omega) | omega) rfl (by omega))) ?_; (try rw [upd_mem _ rfl]); (try rw [new_mem]); (try simp only [List.set_cons_zero, List.set_cons_succ, List.cons_append, List.nil_append, mem_next, List.length_cons, List.length_nil, Nat.zero_add, Nat.reduceAdd, List.drop_zero, vcells, cellsI_app1, cellsB_app1, cellsI_cons, repsI, repsB, Run_app1, Run_reps, mapM, roT])
            refine WS.po (tb := tb) rfl rfl rfl rfl rfl ?_
            refine WS.pend rfl ?_
            refine WS.pregion rfl ?_
            refine WS.poW (tb := tb) rfl rfl rfl rfl rfl (by simp only [lo]; omega) (by simp only [Am.hi]; omega) ?_
            refine WS.po (tb := tb) rfl rfl rfl rfl rfl ?_
            refine WS.pend rfl ?_
            refine WS.nil ?_
            exact ⟨(i + 1, z :: (l ++ [(⟨i, 1, x⟩ : Run)])), ⟨by dsimp only; omega, e⟩, by dsimp only; omega, (SeenBy.seen (v := [0,1,4]) ⟨rfl, rfl, (by simp [viewP, okL, okV, mapL, mapV, mem_get, mapL_cellsR, okL_cellsR, mapM, one_run]), (by first | exact rfl | exact own2_dist rfl rfl), (by simp only [slotsP, okV, okL, mapV, mapL, and_true, true_and, List.length_cons, List.length_nil, List.length_append, List.length_map, Nat.reduceAdd, Nat.reduceLT, mapM, one_run]; repeat' (first | exact rfl | refine ⟨?_, ?_⟩ | exact lk_m rfl (hmp _ rfl) | exact hok _ (Nat.le_of_ble_eq_true rfl) | exact lk_i rfl (by omega) | exact lk_sl rfl (by omega) (by omega) (by omega) | decide | omega))⟩)⟩
    · obtain rfl : i = t.length := by omega
      rcases L with _ | ⟨z, l⟩
      · simp only [mapM, List.cons_append, List.nil_append]
        refine WS.pseq rfl ?_
        refine WS.pregion rfl ?_
        refine WS.poDF (tb := tb) rfl rfl rfl rfl rfl (by omega) ?_
        refine WS.pend rfl ?_
        refine WS.pseq rfl ?_
        refine WS.pcondF rfl rfl ?_
        refine WS.pout rfl rfl ?_
        exact ⟨rfl, [], hL, (SeenBy.seen (v := [0,1,2]) ⟨rfl, rfl, (by simp [viewP, okL, okV, mapL, mapV, mem_get, mapL_cellsR, okL_cellsR, mapM]), (by first | exact rfl | exact own2_dist rfl rfl), (by simp only [slotsP, okV, okL, mapV, mapL, and_true, true_and, List.length_cons, List.length_nil, List.length_append, List.length_map, Nat.reduceAdd, Nat.reduceLT, mapM]; repeat' (first | exact rfl | refine ⟨?_, ?_⟩ | exact lk_m rfl (hmp _ rfl) | exact hok _ (Nat.le_of_ble_eq_true rfl) | exact lk_i rfl (by omega) | exact lk_sl rfl (by omega) (by omega) (by omega) | decide | omega))⟩)⟩
      · simp only [mapM, List.cons_append, List.nil_append]
        refine WS.pseq rfl ?_
        refine WS.pregion rfl ?_
        refine WS.poDF (tb := tb) rfl rfl rfl rfl rfl (by omega) ?_
        refine WS.pend rfl ?_
        refine WS.pseq rfl ?_
        refine WS.pcondF rfl rfl ?_
        refine WS.pout rfl rfl ?_
        exact ⟨rfl, z :: l, hL, (SeenBy.seen (v := [0,1,2]) ⟨rfl, rfl, (by simp [viewP, okL, okV, mapL, mapV, mem_get, mapL_cellsR, okL_cellsR, mapM]), (by first | exact rfl | exact own2_dist rfl rfl), (by simp only [slotsP, okV, okL, mapV, mapL, and_true, true_and, List.length_cons, List.length_nil, List.length_append, List.length_map, Nat.reduceAdd, Nat.reduceLT, mapM]; repeat' (first | exact rfl | refine ⟨?_, ?_⟩ | exact lk_m rfl (hmp _ rfl) | exact hok _ (Nat.le_of_ble_eq_true rfl) | exact lk_i rfl (by omega) | exact lk_sl rfl (by omega) (by omega) (by omega) | decide | omega))⟩)⟩
  · rintro b hbq
    rw [← hbq]
    rcases b with _ | ⟨z, l⟩
    · simp only [mapM, List.cons_append, List.nil_append]
      refine WS.pseq rfl ?_
      refine WS.pregion rfl ?_
      refine WS.po (tb := tb) rfl rfl rfl rfl rfl ?_
      refine WS.po (tb := tb) rfl rfl rfl rfl rfl ?_
      refine WS.pend rfl ?_
      refine WS.pret rfl ⟨.inr rfl, _, rfl, ?_⟩
      exact ⟨_, rfl, [0,1,2], mapM t most q ++ [none], .sl none 0 0 false, ⟨rfl, rfl, (by simp [viewP, okL, okV, mapL, mapV, mem_get, mapL_cellsR, okL_cellsR, mapM]), rfl⟩, rfl, by simp [okV, mapM], rfl, rfl⟩
    · simp only [mapM, List.cons_append, List.nil_append]
      refine WS.pseq rfl ?_
      refine WS.pregion rfl ?_
      refine WS.po (tb := tb) rfl rfl rfl rfl rfl ?_
      refine WS.po (tb := tb) rfl rfl rfl rfl rfl ?_
      refine WS.pend rfl ?_
      refine WS.pret rfl ⟨.inr rfl, _, rfl, ?_⟩
      exact ⟨_, rfl, [0,1,2], mapM t most q ++ [some ⟨cellsR rwRun (z :: l), 55, true⟩], .sl (some (2,0)) (l.length + 1) (l.length + 1) true, ⟨rfl, rfl, (by simp [viewP, okL, okV, mapL, mapV, mem_get, mapL_cellsR, okL_cellsR, mapM]), rfl⟩, rfl, by simp [okV, mapM], rfl, rfl⟩

theorem refRuns_walk (t : List Int) (c : Nat) (q : Bool) (hl : t.length ≤ 1000) (hb : Bnd t) : FM Try.prog 38 [.sl (some (0,0)) t.length c q] (roT t) (fun v M' => v = (match runsN t t.length with | [] => .sl (some (1,0)) 0 0 false | x :: l => .sl (some (1,0)) (l.length + 1) (l.length + 1) true) ∧ M' = roT t ++ [match runsN t t.length with | [] => some ⟨[], 55, true⟩ | x :: l => some ⟨cellsR rwRun (x :: l), 55, true⟩]) := by
  refine FM.pbodyV (tb := tb) (fn := Try.f38) rfl rfl ?_
  simp only [argS, Nat.reduceAdd, roT, List.length_cons, List.length_nil]
  refine WS.pseq rfl ?_
  refine WS.pregion rfl ?_
  refine WS.po (tb := tb) rfl rfl rfl rfl rfl ?_
  refine WS.pend rfl ?_
  refine WS.pseq rfl ?_
  refine WS.pregion rfl ?_
  refine WS.po (tb := tb) rfl rfl rfl rfl rfl ?_; rw [new_mem]; simp only [List.cons_append, List.nil_append, vcells, mem_next, List.length_cons, List.length_nil, Nat.zero_add, Nat.reduceAdd, reps, List.append_nil, setL, List.set_cons_zero, List.set_cons_succ, Nat.zero_mul, Nat.reduceMul]
  refine WS.po (tb := tb) rfl rfl rfl rfl rfl ?_
  refine WS.pend rfl ?_
  refine WS.pseq rfl ?_
  refine WS.pseq rfl ?_
  refine WS.pregion rfl ?_
  refine WS.po (tb := tb) rfl rfl rfl rfl rfl ?_
  refine WS.pend rfl ?_
  refine WS.pblock rfl ?_
  refine WS.ploopI (σ := Nat × List Run) (τ := List Run) (fun a => [(0, .sl (some (0,0)) t.length c q), (4, .i .i64 a.1), (3, match a.2 with | [] => .sl (some (1,0)) 0 0 false | x :: l => .sl (some (1,0)) (l.length + 1) (l.length + 1) true)]) (fun a => roT t ++ [match a.2 with | [] => some ⟨[], 55, true⟩ | x :: l => some ⟨cellsR rwRun (x :: l), 55, true⟩]) (fun a => a.1 ≤ t.length ∧ a.2 = runsN t a.1) (fun a => t.length - a.1)
    (fun b => [(3, match b with | [] => .sl (some (1,0)) 0 0 false | x :: l => .sl (some (1,0)) (l.length + 1) (l.length + 1) true)]) (fun b => roT t ++ [match b with | [] => some ⟨[], 55, true⟩ | x :: l => some ⟨cellsR rwRun (x :: l), 55, true⟩]) (fun b => b = runsN t t.length) 0 [0,1,2] (0, []) rfl ⟨Nat.zero_le _, rfl⟩ ⟨rfl, rfl, (by simp [viewP, okL, okV, mapL, mapV, mem_get, mapL_cellsR, okL_cellsR, roT, reps]), (by first | exact rfl | exact own2_dist rfl rfl), (by simp only [slotsP, okV, okL, mapV, mapL, and_true, true_and, List.length_cons, List.length_nil, List.length_append, List.length_map, Nat.reduceAdd, Nat.reduceLT, roT, reps]; repeat' (first | exact rfl | refine ⟨?_, ?_⟩ | exact lk_m rfl (hmp _ rfl) | exact hok _ (Nat.le_of_ble_eq_true rfl) | exact lk_i rfl (by omega) | exact lk_sl rfl (by omega) (by omega) (by omega) | decide | omega))⟩ rfl ?_ ?_
  · rintro ⟨i, L⟩ ⟨hi, hL⟩
    dsimp only at hi hL
    have hle := runsN_le t i
    rw [← hL] at hle
    by_cases h : i < t.length
    · obtain ⟨x, hx⟩ : ∃ x, t[i]? = some x := ⟨_, List.getElem?_eq_getElem h⟩
      have gx := getD_of hx
      have bx := hb x (List.mem_of_getElem? hx)
      have hlens := runsN_lens t i
      rw [← hL] at hlens
      have G := goesOn_walk t i t.length q h hl hb
      obtain ⟨y, hy⟩ : ∃ y, 0 < i → t[i - 1]? = some y := by
        by_cases h0 : 0 < i
        · exact ⟨t[i - 1]'(by omega), fun _ => List.getElem?_eq_getElem (by omega)⟩
        · exact ⟨0, fun h => absurd h h0⟩
      have bY : 0 < i → -1 ≤ y ∧ y ≤ 1100000 := fun h0 => hb y (List.mem_of_getElem? (hy h0))
      have gy : 0 < i → t.getD (i - 1) 0 = y := fun h0 => getD_of (hy h0)
      have eI : 0 < i → (i : Int) - 1 = ((i - 1 : Nat) : Int) := fun h0 => by omega
      by_cases h1 : x < 0
      · have e : L = runsN t (i + 1) := by simp only [runsN]; rw [gx, if_pos h1]; exact hL
        rcases L with _ | ⟨z, l⟩
        · simp only [roT, List.cons_append, List.nil_append]
          refine WS.pseq rfl ?_
          refine WS.pseq rfl ?_
          refine WS.pregion rfl ?_
          refine WS.po (tb := tb) rfl rfl rfl rfl rfl ?_
          refine WS.po (tb := tb) rfl rfl rfl rfl rfl ?_
          refine WS.po (tb := tb) rfl rfl rfl rfl rfl ?_
          refine WS.poDT (tb := tb) rfl rfl rfl rfl rfl (by omega) ?_
          refine WS.pend rfl ?_
          refine WS.pcondT rfl rfl ?_
          refine WS.pskip rfl ?_
          refine WS.pseq rfl ?_
          refine WS.pblock rfl ?_
          refine WS.pseq rfl ?_
          refine WS.pseq rfl ?_
          refine WS.pregion rfl ?_
          refine WS.po (tb := tb) rfl rfl rfl rfl rfl ?_
          refine WS.po (tb := tb) rfl rfl rfl rfl rfl ?_
          refine WS.poP (tb := tb) rfl rfl rfl rfl (step_P (evP_index rfl rfl rfl rfl rfl rfl (by omega))) (by simp only [Nat.zero_add, Nat.add_zero, Nat.reduceAdd, Nat.reduceMul, Nat.add_assoc, Nat.mul_one]; exact rfl) ?_
          refine WS.po (tb := tb) rfl rfl rfl rfl (step_R rfl (evR_load rfl rfl rfl rfl (cellsI_get hx))) ?_
          refine WS.poDT (tb := tb) rfl rfl rfl rfl rfl (by omega) ?_
          refine WS.pend rfl ?_
          refine WS.pcondT rfl rfl ?_
          refine WS.pexit rfl rfl ?_
          refine WS.pregion rfl ?_
          refine WS.po (tb := tb) rfl rfl rfl rfl rfl ?_
          refine WS.poW (tb := tb) rfl rfl rfl rfl rfl (by simp only [lo]; omega) (by simp only [Am.hi]; omega) ?_
          refine WS.po (tb := tb) rfl rfl rfl rfl rfl ?_
          refine WS.pend rfl ?_
          refine WS.nil ?_
          exact ⟨(i + 1, []), ⟨by dsimp only; omega, e⟩, by dsimp only; omega, (SeenBy.seen (v := [0,1]) ⟨rfl, rfl, (by simp [viewP, okL, okV, mapL, mapV, mem_get, mapL_cellsR, okL_cellsR, roT]), (by first | exact rfl | exact own2_dist rfl rfl), (by simp only [slotsP, okV, okL, mapV, mapL, and_true, true_and, List.length_cons, List.length_nil, List.length_append, List.length_map, Nat.reduceAdd, Nat.reduceLT, roT]; repeat' (first | exact rfl | refine ⟨?_, ?_⟩ | exact lk_m rfl (hmp _ rfl) | exact hok _ (Nat.le_of_ble_eq_true rfl) | exact lk_i rfl (by omega) | exact lk_sl rfl (by omega) (by omega) (by omega) | decide | omega))⟩)⟩
        · simp only [roT, List.cons_append, List.nil_append]
          refine WS.pseq rfl ?_
          refine WS.pseq rfl ?_
          refine WS.pregion rfl ?_
          refine WS.po (tb := tb) rfl rfl rfl rfl rfl ?_
          refine WS.po (tb := tb) rfl rfl rfl rfl rfl ?_
          refine WS.po (tb := tb) rfl rfl rfl rfl rfl ?_
          refine WS.poDT (tb := tb) rfl rfl rfl rfl rfl (by omega) ?_
          refine WS.pend rfl ?_
          refine WS.pcondT rfl rfl ?_
          refine WS.pskip rfl ?_
          refine WS.pseq rfl ?_
          refine WS.pblock rfl ?_
          refine WS.pseq rfl ?_
          refine WS.pseq rfl ?_
          refine WS.pregion rfl ?_
          refine WS.po (tb := tb) rfl rfl rfl rfl rfl ?_
          refine WS.po (tb := tb) rfl rfl rfl rfl rfl ?_
          refine WS.poP (tb := tb) rfl rfl rfl rfl (step_P (evP_index rfl rfl rfl rfl rfl rfl (by omega))) (by simp only [Nat.zero_add, Nat.add_zero, Nat.reduceAdd, Nat.reduceMul, Nat.add_assoc, Nat.mul_one]; exact rfl) ?_
          refine WS.po (tb := tb) rfl rfl rfl rfl (step_R rfl (evR_load rfl rfl rfl rfl (cellsI_get hx))) ?_
          refine WS.poDT (tb := tb) rfl rfl rfl rfl rfl (by omega) ?_
          refine WS.pend rfl ?_
          refine WS.pcondT rfl rfl ?_
          refine WS.pexit rfl rfl ?_
          refine WS.pregion rfl ?_
          refine WS.po (tb := tb) rfl rfl rfl rfl rfl ?_
          refine WS.poW (tb := tb) rfl rfl rfl rfl rfl (by simp only [lo]; omega) (by simp only [Am.hi]; omega) ?_
          refine WS.po (tb := tb) rfl rfl rfl rfl rfl ?_
          refine WS.pend rfl ?_
          refine WS.nil ?_
          exact ⟨(i + 1, z :: l), ⟨by dsimp only; omega, e⟩, by dsimp only; omega, (SeenBy.seen (v := [0,1]) ⟨rfl, rfl, (by simp [viewP, okL, okV, mapL, mapV, mem_get, mapL_cellsR, okL_cellsR, roT]), (by first | exact rfl | exact own2_dist rfl rfl), (by simp only [slotsP, okV, okL, mapV, mapL, and_true, true_and, List.length_cons, List.length_nil, List.length_append, List.length_map, Nat.reduceAdd, Nat.reduceLT, roT]; repeat' (first | exact rfl | refine ⟨?_, ?_⟩ | exact lk_m rfl (hmp _ rfl) | exact hok _ (Nat.le_of_ble_eq_true rfl) | exact lk_i rfl (by omega) | exact lk_sl rfl (by omega) (by omega) (by omega) | decide | omega))⟩)⟩
      · cases hg : gOn t i with
        | true =>
          rw [hg] at G
          have hgo := hg
          simp only [gOn, decide_eq_true_eq] at hgo
          obtain ⟨h0, _, hg2, hg3⟩ := hgo
          have hy := hy h0
          have gy := gy h0
          have bY := bY h0
          have eI := eI h0
          rw [gx, gy] at hg3
          rw [gy] at hg2
          rcases L with _ | ⟨z, l⟩
          · exact absurd hL.symm (by
              obtain ⟨j, rfl⟩ : ∃ j, i = j + 1 := ⟨i - 1, by omega⟩
              exact runsN_ne t j (by simpa using (by rw [← gy] at hg2; exact hg2)))
          · obtain ⟨r, y', l', hr, hrm, hbm, hbc, hbl⟩ := bump_cons z l
            have hrl := hlens r hrm
            simp only [List.length_cons] at hle
            have e : bump (z :: l) = runsN t (i + 1) := by simp only [runsN]; rw [gx, if_neg h1, if_pos hg, ← hL]
            have hs := Run_set_len hr (r.len + 1)
            rw [← hbm, hbc] at hs
            have eL : (((l.length + 1 : Nat) : Int)) - 1 = (l.length : Int) := by omega
            simp only [roT, List.cons_append, List.nil_append]
            refine WS.pseq rfl ?_
            refine WS.pseq rfl ?_
            refine WS.pregion rfl ?_
            refine WS.po (tb := tb) rfl rfl rfl rfl rfl ?_
            refine WS.po (tb := tb) rfl rfl rfl rfl rfl ?_
            refine WS.po (tb := tb) rfl rfl rfl rfl rfl ?_
            refine WS.poDT (tb := tb) rfl rfl rfl rfl rfl (by omega) ?_
            refine WS.pend rfl ?_
            refine WS.pcondT rfl rfl ?_
            refine WS.pskip rfl ?_
            refine WS.pseq rfl ?_
            refine WS.pblock rfl ?_
            refine WS.pseq rfl ?_
            refine WS.pseq rfl ?_
            refine WS.pregion rfl ?_
            refine WS.po (tb := tb) rfl rfl rfl rfl rfl ?_
            refine WS.po (tb := tb) rfl rfl rfl rfl rfl ?_
            refine WS.poP (tb := tb) rfl rfl rfl rfl (step_P (evP_index rfl rfl rfl rfl rfl rfl (by omega))) (by simp only [Nat.zero_add, Nat.add_zero, Nat.reduceAdd, Nat.reduceMul, Nat.add_assoc, Nat.mul_one]; exact rfl) ?_
            refine WS.po (tb := tb) rfl rfl rfl rfl (step_R rfl (evR_load rfl rfl rfl rfl (cellsI_get hx))) ?_
            refine WS.poDF (tb := tb) rfl rfl rfl rfl rfl (by omega) ?_
            refine WS.pend rfl ?_
            refine WS.pcondF rfl rfl ?_
            refine WS.pskip rfl ?_
            refine WS.pseq rfl ?_
            refine WS.pseq rfl ?_
            refine WS.pdraw (tb := tb) (by kernel_rfl) rfl (by kernel_rfl) (by kernel_rfl) ?_
            refine WD.p (tb := tb) rfl rfl rfl rfl rfl ?_
            refine WD.pDT (tb := tb) rfl rfl rfl rfl rfl (by omega) ?_
            refine WD.p (tb := tb) rfl rfl rfl rfl rfl ?_
            refine WD.p (tb := tb) rfl rfl rfl rfl rfl ?_
            refine WD.p (tb := tb) rfl rfl rfl rfl rfl ?_
            refine WD.pW (tb := tb) rfl rfl rfl rfl rfl (by simp only [lo]; omega) (by simp only [Am.hi]; omega) ?_
            refine WD.pP (tb := tb) rfl rfl rfl rfl (evP_index rfl rfl rfl rfl rfl (by assumption) (by omega)) (by simp only [List.getElem_toArray, List.getElem_cons_zero, List.getElem_cons_succ, Nat.zero_add, Nat.add_zero, Nat.reduceAdd, Nat.reduceMul, Nat.add_assoc, Nat.mul_one, Int.toNat_natCast, Int.reduceToNat, Int.toNat_zero, Nat.zero_mul]; exact rfl) ?_
            refine WD.r (tb := tb) rfl rfl rfl rfl (evQ_R rfl (evR_load rfl rfl rfl rfl (cellsI_get hy))) ?_
            refine WD.pDT (tb := tb) rfl rfl rfl rfl rfl (by omega) ?_
            refine WD.p (tb := tb) rfl rfl rfl rfl rfl ?_
            refine WD.p (tb := tb) rfl rfl rfl rfl rfl ?_
            refine WD.p (tb := tb) rfl rfl rfl rfl rfl ?_
            refine WD.p (tb := tb) rfl rfl rfl rfl rfl ?_
            refine WD.pW (tb := tb) rfl rfl rfl rfl rfl (by simp only [lo]; omega) (by simp only [Am.hi]; omega) ?_
            refine WD.pP (tb := tb) rfl rfl rfl rfl (evP_index rfl rfl rfl rfl rfl (by assumption) (by omega)) (by simp only [List.getElem_toArray, List.getElem_cons_zero, List.getElem_cons_succ, Nat.zero_add, Nat.add_zero, Nat.reduceAdd, Nat.reduceMul, Nat.add_assoc, Nat.mul_one, Int.toNat_natCast, Int.reduceToNat, Int.toNat_zero, Nat.zero_mul]; exact rfl) ?_
            refine WD.r (tb := tb) rfl rfl rfl rfl (evQ_R rfl (evR_load rfl rfl rfl rfl (cellsI_get hy))) ?_
            refine WD.pW (tb := tb) rfl rfl rfl rfl rfl (by simp only [lo]; omega) (by simp only [Am.hi]; omega) ?_
            refine WD.p (tb := tb) rfl rfl rfl rfl rfl ?_
            refine WD.p (tb := tb) rfl rfl rfl rfl rfl ?_
            refine WD.pP (tb := tb) rfl rfl rfl rfl (evP_index rfl rfl rfl rfl rfl rfl (by omega)) (by simp only [Nat.zero_add, Nat.add_zero, Nat.reduceAdd, Nat.reduceMul, Nat.add_assoc, Nat.mul_one]; exact rfl) ?_
            refine WD.r (tb := tb) rfl rfl rfl rfl (evQ_R rfl (evR_load rfl rfl rfl rfl (cellsI_get hx))) ?_
            refine WD.pDT (tb := tb) rfl rfl rfl rfl rfl (by omega) ?_
            refine WD.p (tb := tb) rfl rfl rfl rfl rfl ?_
            refine WD.fin rfl ?_
            refine WS.pcondT rfl rfl ?_
            refine WS.pseq rfl ?_
            refine WS.pregion rfl ?_
            refine WS.po (tb := tb) rfl rfl rfl rfl rfl ?_
            refine WS.po (tb := tb) rfl rfl rfl rfl rfl ?_
            refine WS.po (tb := tb) rfl rfl rfl rfl rfl ?_
            refine WS.poW (tb := tb) rfl rfl rfl rfl rfl (by simp only [lo]; omega) (by simp only [Am.hi]; omega) ?_
            refine WS.poP (tb := tb) rfl rfl rfl rfl (step_P (evP_index rfl rfl rfl rfl rfl (by assumption) (by omega))) (by simp only [List.getElem_toArray, List.getElem_cons_zero, List.getElem_cons_succ, Nat.zero_add, Nat.add_zero, Nat.reduceAdd, Nat.reduceMul, Nat.add_assoc, Nat.mul_one, Int.toNat_natCast, Int.reduceToNat, Int.toNat_zero, Nat.zero_mul]; exact rfl) ?_
            refine WS.poP (tb := tb) rfl rfl rfl rfl rfl (by simp only [List.getElem_toArray, List.getElem_cons_zero, List.getElem_cons_succ, Nat.zero_add, Nat.add_zero, Nat.reduceAdd, Nat.reduceMul, Nat.add_assoc, Nat.mul_one, Int.toNat_natCast, Int.reduceToNat, Int.toNat_zero, Nat.zero_mul]; exact rfl) ?_
            refine WS.po (tb := tb) rfl rfl rfl rfl (step_R rfl (evR_load rfl rfl rfl rfl (cellsR_get hr rfl))) ?_
            refine WS.poW (tb := tb) rfl rfl rfl rfl rfl (by simp only [lo]; omega) (by simp only [Am.hi]; omega) ?_
            refine WS.poP (tb := tb) rfl rfl rfl rfl (step_P (evP_index rfl rfl rfl rfl rfl (by assumption) (by omega))) (by simp only [List.getElem_toArray, List.getElem_cons_zero, List.getElem_cons_succ, Nat.zero_add, Nat.add_zero, Nat.reduceAdd, Nat.reduceMul, Nat.add_assoc, Nat.mul_one, Int.toNat_natCast, Int.reduceToNat, Int.toNat_zero, Nat.zero_mul]; exact rfl) ?_
            refine WS.poP (tb := tb) rfl rfl rfl rfl rfl (by simp only [List.getElem_toArray, List.getElem_cons_zero, List.getElem_cons_succ, Nat.zero_add, Nat.add_zero, Nat.reduceAdd, Nat.reduceMul, Nat.add_assoc, Nat.mul_one, Int.toNat_natCast, Int.reduceToNat, Int.toNat_zero, Nat.zero_mul]; exact rfl) ?_
            refine WS.po0 (tb := tb) rfl rfl rfl rfl (step_H rfl rfl (evH_store rfl rfl rfl rfl rfl (Nat.zero_le _) rfl (by simp [vcells]) (by simp only [Run_len, vcells, List.length_cons, List.length_nil, cellsI_len, cellsB_len, List.length_set, List.length_replicate, List.length_append, List.length_map, List.length_take, List.length_drop]; omega))) ?_; rw [upd_mem _ rfl]; simp only [vcells, List.set_cons_zero, List.set_cons_succ, hs, roT, roT]; (try simp only [setL, List.set_cons_zero, List.set_cons_succ])
            refine WS.pend rfl ?_
            refine WS.pexit rfl rfl ?_
            refine WS.pregion rfl ?_
            refine WS.po (tb := tb) rfl rfl rfl rfl rfl ?_
            refine WS.poW (tb := tb) rfl rfl rfl rfl rfl (by simp only [lo]; omega) (by simp only [Am.hi]; omega) ?_
            refine WS.po (tb := tb) rfl rfl rfl rfl rfl ?_
            refine WS.pend rfl ?_
            refine WS.nil ?_
            exact ⟨(i + 1, y' :: l'), ⟨by dsimp only; omega, by rw [← hbc]; exact e⟩, by dsimp only; omega, (SeenBy.seen (v := [0,1]) ⟨rfl, rfl, (by simp [viewP, okL, okV, mapL, mapV, mem_get, mapL_cellsR, okL_cellsR, roT, hbl]), (by first | exact rfl | exact own2_dist rfl rfl), (by simp only [slotsP, okV, okL, mapV, mapL, and_true, true_and, List.length_cons, List.length_nil, List.length_append, List.length_map, Nat.reduceAdd, Nat.reduceLT, roT, hbl]; repeat' (first | exact rfl | refine ⟨?_, ?_⟩ | exact lk_m rfl (hmp _ rfl) | exact hok _ (Nat.le_of_ble_eq_true rfl) | exact lk_i rfl (by omega) | exact lk_sl rfl (by omega) (by omega) (by omega) | decide | omega))⟩)⟩
        | false =>
          rw [hg] at G
          have e : L ++ [⟨i, 1, x⟩] = runsN t (i + 1) := by simp only [runsN]; rw [gx, if_neg h1, if_neg (by simp [hg]), ← hL]
          have hgo := hg
          simp only [gOn, decide_eq_false_iff_not] at hgo
          have hng : 0 < i → 0 ≤ y → y + 1 = x → False := fun a1 a2 a3 => hgo ⟨a1, by rw [gx]; omega, by rw [gy a1]; exact a2, by rw [gx, gy a1]; omega⟩
          rcases L with _ | ⟨z, l⟩
          · simp only [roT, List.cons_append, List.nil_append]
            by_cases h0 : 0 < i
            · have hy := hy h0
              have eI := eI h0
              have bY := bY h0
              by_cases h7 : 0 ≤ y
              · have hng := hng h0 h7
                refine WS.pseq rfl ?_
                refine WS.pseq rfl ?_
                refine WS.pregion rfl ?_
                refine WS.po (tb := tb) rfl rfl rfl rfl rfl ?_
                refine WS.po (tb := tb) rfl rfl rfl rfl rfl ?_
                refine WS.po (tb := tb) rfl rfl rfl rfl rfl ?_
                refine WS.poDT (tb := tb) rfl rfl rfl rfl rfl (by omega) ?_
                refine WS.pend rfl ?_
                refine WS.pcondT rfl rfl ?_
                refine WS.pskip rfl ?_
                refine WS.pseq rfl ?_
                refine WS.pblock rfl ?_
                refine WS.pseq rfl ?_
                refine WS.pseq rfl ?_
                refine WS.pregion rfl ?_
                refine WS.po (tb := tb) rfl rfl rfl rfl rfl ?_
                refine WS.po (tb := tb) rfl rfl rfl rfl rfl ?_
                refine WS.poP (tb := tb) rfl rfl rfl rfl (step_P (evP_index rfl rfl rfl rfl rfl rfl (by omega))) (by simp only [Nat.zero_add, Nat.add_zero, Nat.reduceAdd, Nat.reduceMul, Nat.add_assoc, Nat.mul_one]; exact rfl) ?_
                refine WS.po (tb := tb) rfl rfl rfl rfl (step_R rfl (evR_load rfl rfl rfl rfl (cellsI_get hx))) ?_
                refine WS.poDF (tb := tb) rfl rfl rfl rfl rfl (by omega) ?_
                refine WS.pend rfl ?_
                refine WS.pcondF rfl rfl ?_
                refine WS.pskip rfl ?_
                refine WS.pseq rfl ?_
                refine WS.pseq rfl ?_
                refine WS.pdraw (tb := tb) (by kernel_rfl) rfl (by kernel_rfl) (by kernel_rfl) ?_
                refine WD.p (tb := tb) rfl rfl rfl rfl rfl ?_
                refine WD.pDT (tb := tb) rfl rfl rfl rfl rfl (by omega) ?_
                refine WD.p (tb := tb) rfl rfl rfl rfl rfl ?_
                refine WD.p (tb := tb) rfl rfl rfl rfl rfl ?_
                refine WD.p (tb := tb) rfl rfl rfl rfl rfl ?_
                refine WD.pW (tb := tb) rfl rfl rfl rfl rfl (by simp only [lo]; omega) (by simp only [Am.hi]; omega) ?_
                refine WD.pP (tb := tb) rfl rfl rfl rfl (evP_index rfl rfl rfl rfl rfl (by assumption) (by omega)) (by simp only [List.getElem_toArray, List.getElem_cons_zero, List.getElem_cons_succ, Nat.zero_add, Nat.add_zero, Nat.reduceAdd, Nat.reduceMul, Nat.add_assoc, Nat.mul_one, Int.toNat_natCast, Int.reduceToNat, Int.toNat_zero, Nat.zero_mul]; exact rfl) ?_
                refine WD.r (tb := tb) rfl rfl rfl rfl (evQ_R rfl (evR_load rfl rfl rfl rfl (cellsI_get hy))) ?_
                refine WD.pDT (tb := tb) rfl rfl rfl rfl rfl (by omega) ?_
                refine WD.p (tb := tb) rfl rfl rfl rfl rfl ?_
                refine WD.p (tb := tb) rfl rfl rfl rfl rfl ?_
                refine WD.p (tb := tb) rfl rfl rfl rfl rfl ?_
                refine WD.p (tb := tb) rfl rfl rfl rfl rfl ?_
                refine WD.pW (tb := tb) rfl rfl rfl rfl rfl (by simp only [lo]; omega) (by simp only [Am.hi]; omega) ?_
                refine WD.pP (tb := tb) rfl rfl rfl rfl (evP_index rfl rfl rfl rfl rfl (by assumption) (by omega)) (by simp only [List.getElem_toArray, List.getElem_cons_zero, List.getElem_cons_succ, Nat.zero_add, Nat.add_zero, Nat.reduceAdd, Nat.reduceMul, Nat.add_assoc, Nat.mul_one, Int.toNat_natCast, Int.reduceToNat, Int.toNat_zero, Nat.zero_mul]; exact rfl) ?_
                refine WD.r (tb := tb) rfl rfl rfl rfl (evQ_R rfl (evR_load rfl rfl rfl rfl (cellsI_get hy))) ?_
                refine WD.pW (tb := tb) rfl rfl rfl rfl rfl (by simp only [lo]; omega) (by simp only [Am.hi]; omega) ?_
                refine WD.p (tb := tb) rfl rfl rfl rfl rfl ?_
                refine WD.p (tb := tb) rfl rfl rfl rfl rfl ?_
                refine WD.pP (tb := tb) rfl rfl rfl rfl (evP_index rfl rfl rfl rfl rfl rfl (by omega)) (by simp only [Nat.zero_add, Nat.add_zero, Nat.reduceAdd, Nat.reduceMul, Nat.add_assoc, Nat.mul_one]; exact rfl) ?_
                refine WD.r (tb := tb) rfl rfl rfl rfl (evQ_R rfl (evR_load rfl rfl rfl rfl (cellsI_get hx))) ?_
                refine WD.pDF (tb := tb) rfl rfl rfl rfl rfl (by omega) ?_
                refine WD.p (tb := tb) rfl rfl rfl rfl rfl ?_
                refine WD.fin rfl ?_
                refine WS.pcondF rfl rfl ?_
                refine WS.pskip rfl ?_
                refine WS.pregion rfl ?_
                refine WS.po (tb := tb) rfl rfl rfl rfl rfl ?_
                refine WS.po (tb := tb) rfl rfl rfl rfl rfl ?_
                refine WS.po (tb := tb) rfl rfl rfl rfl rfl ?_
                refine WS.po (tb := tb) rfl rfl rfl rfl rfl ?_
                refine WS.poP (tb := tb) rfl rfl rfl rfl (step_P (evP_index rfl rfl rfl rfl rfl rfl (by omega))) (by simp only [Nat.zero_add, Nat.add_zero, Nat.reduceAdd, Nat.reduceMul, Nat.add_assoc, Nat.mul_one]; exact rfl) ?_
                refine WS.po (tb := tb) rfl rfl rfl rfl (step_R rfl (evR_load rfl rfl rfl rfl (cellsI_get hx))) ?_
                refine WS.poA (tb := tb) rfl rfl rfl rfl rfl (by simp only [vcells, setL, List.set_cons_zero, List.set_cons_succ, List.getElem_toArray, List.getElem_cons_zero, List.getElem_cons_succ, Nat.zero_add, Nat.add_zero, Nat.reduceAdd, Nat.reduceMul, Nat.add_assoc, Nat.mul_one, Int.toNat_natCast, Int.reduceToNat, Int.toNat_zero, Nat.zero_mul]; exact rfl) ?_
                refine WS.po (tb := tb) rfl rfl rfl rfl rfl ?_; rw [new_mem]; simp only [List.cons_append, List.nil_append, vcells, mem_next, List.length_cons, List.length_nil, Nat.zero_add, Nat.reduceAdd, reps, List.append_nil, setL, List.set_cons_zero, List.set_cons_succ, Nat.zero_mul, Nat.reduceMul]
                refine WS.po (tb := tb) rfl rfl rfl rfl (step_H rfl rfl (evH_append_empty rfl rfl rfl rfl rfl rfl rfl rfl rfl (by omega) (by omega) (cellsAt_all rfl rfl) (by first | exact rfl | (simp only [Run_len, vcells, List.length_cons, List.length_nil, cellsI_len, cellsB_len, List.length_set, List.length_replicate, List.length_append, List.length_map, List.length_take, List.length_drop]; omega) | omega) (by omega))) ?_; (try rw [upd_mem _ rfl]); (try rw [new_mem]); (try simp only [List.set_cons_zero, List.set_cons_succ, List.cons_append, List.nil_append, mem_next, List.length_cons, List.length_nil, Nat.zero_add, Nat.reduceAdd, List.drop_zero, vcells, cellsI_app1, cellsB_app1, cellsI_cons, repsI, repsB, Run_app1, Run_reps, roT])
                refine WS.po (tb := tb) rfl rfl rfl rfl rfl ?_
                refine WS.pend rfl ?_
                refine WS.pregion rfl ?_
                refine WS.po (tb := tb) rfl rfl rfl rfl rfl ?_
                refine WS.poW (tb := tb) rfl rfl rfl rfl rfl (by simp only [lo]; omega) (by simp only [Am.hi]; omega) ?_
                refine WS.po (tb := tb) rfl rfl rfl rfl rfl ?_
                refine WS.pend rfl ?_
                refine WS.nil ?_
                exact ⟨(i + 1, [(⟨i, 1, x⟩ : Run)]), ⟨by dsimp only; omega, e⟩, by dsimp only; omega, (SeenBy.seen (v := [0,3]) ⟨rfl, rfl, (by simp [viewP, okL, okV, mapL, mapV, mem_get, mapL_cellsR, okL_cellsR, roT, one_run]), (by first | exact rfl | exact own2_dist rfl rfl), (by simp only [slotsP, okV, okL, mapV, mapL, and_true, true_and, List.length_cons, List.length_nil, List.length_append, List.length_map, Nat.reduceAdd, Nat.reduceLT, roT, one_run]; repeat' (first | exact rfl | refine ⟨?_, ?_⟩ | exact lk_m rfl (hmp _ rfl) | exact hok _ (Nat.le_of_ble_eq_true rfl) | exact lk_i rfl (by omega) | exact lk_sl rfl (by omega) (by omega) (by omega) | decide | omega))⟩)⟩
              · refine WS.pseq rfl ?_
                refine WS.pseq rfl ?_
                refine WS.pregion rfl ?_
                refine WS.po (tb := tb) rfl rfl rfl rfl rfl ?_
                refine WS.po (tb := tb) rfl rfl rfl rfl rfl ?_
                refine WS.po (tb := tb) rfl rfl rfl rfl rfl ?_
                refine WS.poDT (tb := tb) rfl rfl rfl rfl rfl (by omega) ?_
                refine WS.pend rfl ?_
                refine WS.pcondT rfl rfl ?_
                refine WS.pskip rfl ?_
                refine WS.pseq rfl ?_
                refine WS.pblock rfl ?_
                refine WS.pseq rfl ?_
                refine WS.pseq rfl ?_
                refine WS.pregion rfl ?_
                refine WS.po (tb := tb) rfl rfl rfl rfl rfl ?_
                refine WS.po (tb := tb) rfl rfl rfl rfl rfl ?_
                refine WS.poP (tb := tb) rfl rfl rfl rfl (step_P (evP_index rfl rfl rfl rfl rfl rfl (by omega))) (by simp only [Nat.zero_add, Nat.add_zero, Nat.reduceAdd, Nat.reduceMul, Nat.add_assoc, Nat.mul_one]; exact rfl) ?_
                refine WS.po (tb := tb) rfl rfl rfl rfl (step_R rfl (evR_load rfl rfl rfl rfl (cellsI_get hx))) ?_
                refine WS.poDF (tb := tb) rfl rfl rfl rfl rfl (by omega) ?_
                refine WS.pend rfl ?_
                refine WS.pcondF rfl rfl ?_
                refine WS.pskip rfl ?_
                refine WS.pseq rfl ?_
                refine WS.pseq rfl ?_
                refine WS.pdraw (tb := tb) (by kernel_rfl) rfl (by kernel_rfl) (by kernel_rfl) ?_
                refine WD.p (tb := tb) rfl rfl rfl rfl rfl ?_
                refine WD.pDT (tb := tb) rfl rfl rfl rfl rfl (by omega) ?_
                refine WD.p (tb := tb) rfl rfl rfl rfl rfl ?_
                refine WD.p (tb := tb) rfl rfl rfl rfl rfl ?_
                refine WD.p (tb := tb) rfl rfl rfl rfl rfl ?_
                refine WD.pW (tb := tb) rfl rfl rfl rfl rfl (by simp only [lo]; omega) (by simp only [Am.hi]; omega) ?_
                refine WD.pP (tb := tb) rfl rfl rfl rfl (evP_index rfl rfl rfl rfl rfl (by assumption) (by omega)) (by simp only [List.getElem_toArray, List.getElem_cons_zero, List.getElem_cons_succ, Nat.zero_add, Nat.add_zero, Nat.reduceAdd, Nat.reduceMul, Nat.add_assoc, Nat.mul_one, Int.toNat_natCast, Int.reduceToNat, Int.toNat_zero, Nat.zero_mul]; exact rfl) ?_
                refine WD.r (tb := tb) rfl rfl rfl rfl (evQ_R rfl (evR_load rfl rfl rfl rfl (cellsI_get hy))) ?_
                refine WD.pDF (tb := tb) rfl rfl rfl rfl rfl (by omega) ?_
                refine WD.p (tb := tb) rfl rfl rfl rfl rfl ?_
                refine WD.p (tb := tb) rfl rfl rfl rfl rfl ?_
                refine WD.no rfl rfl rfl rfl ?_
                refine WD.no rfl rfl rfl rfl ?_
                refine WD.no rfl rfl rfl rfl ?_
                refine WD.no rfl rfl rfl rfl ?_
                refine WD.no1 rfl rfl rfl rfl ?_
                refine WD.no rfl rfl rfl rfl ?_
                refine WD.no rfl rfl rfl rfl ?_
                refine WD.no rfl rfl rfl rfl ?_
                refine WD.no rfl rfl rfl rfl ?_
                refine WD.no1 rfl rfl rfl rfl ?_
                refine WD.no rfl rfl rfl rfl ?_
                refine WD.p (tb := tb) rfl rfl rfl rfl rfl ?_
                refine WD.fin rfl ?_
                refine WS.pcondF rfl rfl ?_
                refine WS.pskip rfl ?_
                refine WS.pregion rfl ?_
                refine WS.po (tb := tb) rfl rfl rfl rfl rfl ?_
                refine WS.po (tb := tb) rfl rfl rfl rfl rfl ?_
                refine WS.po (tb := tb) rfl rfl rfl rfl rfl ?_
                refine WS.po (tb := tb) rfl rfl rfl rfl rfl ?_
                refine WS.poP (tb := tb) rfl rfl rfl rfl (step_P (evP_index rfl rfl rfl rfl rfl rfl (by omega))) (by simp only [Nat.zero_add, Nat.add_zero, Nat.reduceAdd, Nat.reduceMul, Nat.add_assoc, Nat.mul_one]; exact rfl) ?_
                refine WS.po (tb := tb) rfl rfl rfl rfl (step_R rfl (evR_load rfl rfl rfl rfl (cellsI_get hx))) ?_
                refine WS.poA (tb := tb) rfl rfl rfl rfl rfl (by simp only [vcells, setL, List.set_cons_zero, List.set_cons_succ, List.getElem_toArray, List.getElem_cons_zero, List.getElem_cons_succ, Nat.zero_add, Nat.add_zero, Nat.reduceAdd, Nat.reduceMul, Nat.add_assoc, Nat.mul_one, Int.toNat_natCast, Int.reduceToNat, Int.toNat_zero, Nat.zero_mul]; exact rfl) ?_
                refine WS.po (tb := tb) rfl rfl rfl rfl rfl ?_; rw [new_mem]; simp only [List.cons_append, List.nil_append, vcells, mem_next, List.length_cons, List.length_nil, Nat.zero_add, Nat.reduceAdd, reps, List.append_nil, setL, List.set_cons_zero, List.set_cons_succ, Nat.zero_mul, Nat.reduceMul]
                refine WS.po (tb := tb) rfl rfl rfl rfl (step_H rfl rfl (evH_append_empty rfl rfl rfl rfl rfl rfl rfl rfl rfl (by omega) (by omega) (cellsAt_all rfl rfl) (by first | exact rfl | (simp only [Run_len, vcells, List.length_cons, List.length_nil, cellsI_len, cellsB_len, List.length_set, List.length_replicate, List.length_append, List.length_map, List.length_take, List.length_drop]; omega) | omega) (by omega))) ?_; (try rw [upd_mem _ rfl]); (try rw [new_mem]); (try simp only [List.set_cons_zero, List.set_cons_succ, List.cons_append, List.nil_append, mem_next, List.length_cons, List.length_nil, Nat.zero_add, Nat.reduceAdd, List.drop_zero, vcells, cellsI_app1, cellsB_app1, cellsI_cons, repsI, repsB, Run_app1, Run_reps, roT])
                refine WS.po (tb := tb) rfl rfl rfl rfl rfl ?_
                refine WS.pend rfl ?_
                refine WS.pregion rfl ?_
                refine WS.po (tb := tb) rfl rfl rfl rfl rfl ?_
                refine WS.poW (tb := tb) rfl rfl rfl rfl rfl (by simp only [lo]; omega) (by simp only [Am.hi]; omega) ?_
                refine WS.po (tb := tb) rfl rfl rfl rfl rfl ?_
                refine WS.pend rfl ?_
                refine WS.nil ?_
                exact ⟨(i + 1, [(⟨i, 1, x⟩ : Run)]), ⟨by dsimp only; omega, e⟩, by dsimp only; omega, (SeenBy.seen (v := [0,3]) ⟨rfl, rfl, (by simp [viewP, okL, okV, mapL, mapV, mem_get, mapL_cellsR, okL_cellsR, roT, one_run]), (by first | exact rfl | exact own2_dist rfl rfl), (by simp only [slotsP, okV, okL, mapV, mapL, and_true, true_and, List.length_cons, List.length_nil, List.length_append, List.length_map, Nat.reduceAdd, Nat.reduceLT, roT, one_run]; repeat' (first | exact rfl | refine ⟨?_, ?_⟩ | exact lk_m rfl (hmp _ rfl) | exact hok _ (Nat.le_of_ble_eq_true rfl) | exact lk_i rfl (by omega) | exact lk_sl rfl (by omega) (by omega) (by omega) | decide | omega))⟩)⟩
            · refine WS.pseq rfl ?_
              refine WS.pseq rfl ?_
              refine WS.pregion rfl ?_
              refine WS.po (tb := tb) rfl rfl rfl rfl rfl ?_
              refine WS.po (tb := tb) rfl rfl rfl rfl rfl ?_
              refine WS.po (tb := tb) rfl rfl rfl rfl rfl ?_
              refine WS.poDT (tb := tb) rfl rfl rfl rfl rfl (by omega) ?_
              refine WS.pend rfl ?_
              refine WS.pcondT rfl rfl ?_
              refine WS.pskip rfl ?_
              refine WS.pseq rfl ?_
              refine WS.pblock rfl ?_
              refine WS.pseq rfl ?_
              refine WS.pseq rfl ?_
              refine WS.pregion rfl ?_
              refine WS.po (tb := tb) rfl rfl rfl rfl rfl ?_
              refine WS.po (tb := tb) rfl rfl rfl rfl rfl ?_
              refine WS.poP (tb := tb) rfl rfl rfl rfl (step_P (evP_index rfl rfl rfl rfl rfl rfl (by omega))) (by simp only [Nat.zero_add, Nat.add_zero, Nat.reduceAdd, Nat.reduceMul, Nat.add_assoc, Nat.mul_one]; exact rfl) ?_
              refine WS.po (tb := tb) rfl rfl rfl rfl (step_R rfl (evR_load rfl rfl rfl rfl (cellsI_get hx))) ?_
              refine WS.poDF (tb := tb) rfl rfl rfl rfl rfl (by omega) ?_
              refine WS.pend rfl ?_
              refine WS.pcondF rfl rfl ?_
              refine WS.pskip rfl ?_
              refine WS.pseq rfl ?_
              refine WS.pseq rfl ?_
              refine WS.pdraw (tb := tb) (by kernel_rfl) rfl (by kernel_rfl) (by kernel_rfl) ?_
              refine WD.p (tb := tb) rfl rfl rfl rfl rfl ?_
              refine WD.pDF (tb := tb) rfl rfl rfl rfl rfl (by omega) ?_
              refine WD.p (tb := tb) rfl rfl rfl rfl rfl ?_
              refine WD.no rfl rfl rfl rfl ?_
              refine WD.no rfl rfl rfl rfl ?_
              refine WD.no rfl rfl rfl rfl ?_
              refine WD.no rfl rfl rfl rfl ?_
              refine WD.no1 rfl rfl rfl rfl ?_
              refine WD.no rfl rfl rfl rfl ?_
              refine WD.p (tb := tb) rfl rfl rfl rfl rfl ?_
              refine WD.p (tb := tb) rfl rfl rfl rfl rfl ?_
              refine WD.no rfl rfl rfl rfl ?_
              refine WD.no rfl rfl rfl rfl ?_
              refine WD.no rfl rfl rfl rfl ?_
              refine WD.no rfl rfl rfl rfl ?_
              refine WD.no1 rfl rfl rfl rfl ?_
              refine WD.no rfl rfl rfl rfl ?_
              refine WD.no rfl rfl rfl rfl ?_
              refine WD.no rfl rfl rfl rfl ?_
              refine WD.no rfl rfl rfl rfl ?_
              refine WD.no1 rfl rfl rfl rfl ?_
              refine WD.no rfl rfl rfl rfl ?_
              refine WD.p (tb := tb) rfl rfl rfl rfl rfl ?_
              refine WD.fin rfl ?_
              refine WS.pcondF rfl rfl ?_
              refine WS.pskip rfl ?_
              refine WS.pregion rfl ?_
              refine WS.po (tb := tb) rfl rfl rfl rfl rfl ?_
              refine WS.po (tb := tb) rfl rfl rfl rfl rfl ?_
              refine WS.po (tb := tb) rfl rfl rfl rfl rfl ?_
              refine WS.po (tb := tb) rfl rfl rfl rfl rfl ?_
              refine WS.poP (tb := tb) rfl rfl rfl rfl (step_P (evP_index rfl rfl rfl rfl rfl rfl (by omega))) (by simp only [Nat.zero_add, Nat.add_zero, Nat.reduceAdd, Nat.reduceMul, Nat.add_assoc, Nat.mul_one]; exact rfl) ?_
              refine WS.po (tb := tb) rfl rfl rfl rfl (step_R rfl (evR_load rfl rfl rfl rfl (cellsI_get hx))) ?_
              refine WS.poA (tb := tb) rfl rfl rfl rfl rfl (by simp only [vcells, setL, List.set_cons_zero, List.set_cons_succ, List.getElem_toArray, List.getElem_cons_zero, List.getElem_cons_succ, Nat.zero_add, Nat.add_zero, Nat.reduceAdd, Nat.reduceMul, Nat.add_assoc, Nat.mul_one, Int.toNat_natCast, Int.reduceToNat, Int.toNat_zero, Nat.zero_mul]; exact rfl) ?_
              refine WS.po (tb := tb) rfl rfl rfl rfl rfl ?_; rw [new_mem]; simp only [List.cons_append, List.nil_append, vcells, mem_next, List.length_cons, List.length_nil, Nat.zero_add, Nat.reduceAdd, reps, List.append_nil, setL, List.set_cons_zero, List.set_cons_succ, Nat.zero_mul, Nat.reduceMul]
              refine WS.po (tb := tb) rfl rfl rfl rfl (step_H rfl rfl (evH_append_empty rfl rfl rfl rfl rfl rfl rfl rfl rfl (by omega) (by omega) (cellsAt_all rfl rfl) (by first | exact rfl | (simp only [Run_len, vcells, List.length_cons, List.length_nil, cellsI_len, cellsB_len, List.length_set, List.length_replicate, List.length_append, List.length_map, List.length_take, List.length_drop]; omega) | omega) (by omega))) ?_; (try rw [upd_mem _ rfl]); (try rw [new_mem]); (try simp only [List.set_cons_zero, List.set_cons_succ, List.cons_append, List.nil_append, mem_next, List.length_cons, List.length_nil, Nat.zero_add, Nat.reduceAdd, List.drop_zero, vcells, cellsI_app1, cellsB_app1, cellsI_cons, repsI, repsB, Run_app1, Run_reps, roT])
              refine WS.po (tb := tb) rfl rfl rfl rfl rfl ?_
              refine WS.pend rfl ?_
              refine WS.pregion rfl ?_
              refine WS.po (tb := tb) rfl rfl rfl rfl rfl ?_
              refine WS.poW (tb := tb) rfl rfl rfl rfl rfl (by simp only [lo]; omega) (by simp only [Am.hi]; omega) ?_
              refine WS.po (tb := tb) rfl rfl rfl rfl rfl ?_
              refine WS.pend rfl ?_
              refine WS.nil ?_
              exact ⟨(i + 1, [(⟨i, 1, x⟩ : Run)]), ⟨by dsimp only; omega, e⟩, by dsimp only; omega, (SeenBy.seen (v := [0,3]) ⟨rfl, rfl, (by simp [viewP, okL, okV, mapL, mapV, mem_get, mapL_cellsR, okL_cellsR, roT, one_run]), (by first | exact rfl | exact own2_dist rfl rfl), (by simp only [slotsP, okV, okL, mapV, mapL, and_true, true_and, List.length_cons, List.length_nil, List.length_append, List.length_map, Nat.reduceAdd, Nat.reduceLT, roT, one_run]; repeat' (first | exact rfl | refine ⟨?_, ?_⟩ | exact lk_m rfl (hmp _ rfl) | exact hok _ (Nat.le_of_ble_eq_true rfl) | exact lk_i rfl (by omega) | exact lk_sl rfl (by omega) (by omega) (by omega) | decide | omega))⟩)⟩
          · simp only [List.length_cons] at hle
            simp only [roT, List.cons_append, List.nil_append]
            by_cases h0 : 0 < i
            · have hy := hy h0
              have eI := eI h0
              have bY := bY h0
              by_cases h7 : 0 ≤ y
              · have hng := hng h0 h7
                refine WS.pseq rfl ?_
                refine WS.pseq rfl ?_
                refine WS.pregion rfl ?_
                refine WS.po (tb := tb) rfl rfl rfl rfl rfl ?_
                refine WS.po (tb := tb) rfl rfl rfl rfl rfl ?_
                refine WS.po (tb := tb) rfl rfl rfl rfl rfl ?_
                refine WS.poDT (tb := tb) rfl rfl rfl rfl rfl (by omega) ?_
                refine WS.pend rfl ?_
                refine WS.pcondT rfl rfl ?_
                refine WS.pskip rfl ?_
                refine WS.pseq rfl ?_
                refine WS.pblock rfl ?_
                refine WS.pseq rfl ?_
                refine WS.pseq rfl ?_
                refine WS.pregion rfl ?_
                refine WS.po (tb := tb) rfl rfl rfl rfl rfl ?_
                refine WS.po (tb := tb) rfl rfl rfl rfl rfl ?_
                refine WS.poP (tb := tb) rfl rfl rfl rfl (step_P (evP_index rfl rfl rfl rfl rfl rfl (by omega))) (by simp only [Nat.zero_add, Nat.add_zero, Nat.reduceAdd, Nat.reduceMul, Nat.add_assoc, Nat.mul_one]; exact rfl) ?_
                refine WS.po (tb := tb) rfl rfl rfl rfl (step_R rfl (evR_load rfl rfl rfl rfl (cellsI_get hx))) ?_
                refine WS.poDF (tb := tb) rfl rfl rfl rfl rfl (by omega) ?_
                refine WS.pend rfl ?_
                refine WS.pcondF rfl rfl ?_
                refine WS.pskip rfl ?_
                refine WS.pseq rfl ?_
                refine WS.pseq rfl ?_
                refine WS.pdraw (tb := tb) (by kernel_rfl) rfl (by kernel_rfl) (by kernel_rfl) ?_
                refine WD.p (tb := tb) rfl rfl rfl rfl rfl ?_
                refine WD.pDT (tb := tb) rfl rfl rfl rfl rfl (by omega) ?_
                refine WD.p (tb := tb) rfl rfl rfl rfl rfl ?_
                refine WD.p (tb := tb) rfl rfl rfl rfl rfl ?_
                refine WD.p (tb := tb) rfl rfl rfl rfl rfl ?_
                refine WD.pW (tb := tb) rfl rfl rfl rfl rfl (by simp only [lo]; omega) (by simp only [Am.hi]; omega) ?_
                refine WD.pP (tb := tb) rfl rfl rfl rfl (evP_index rfl rfl rfl rfl rfl (by assumption) (by omega)) (by simp only [List.getElem_toArray, List.getElem_cons_zero, List.getElem_cons_succ, Nat.zero_add, Nat.add_zero, Nat.reduceAdd, Nat.reduceMul, Nat.add_assoc, Nat.mul_one, Int.toNat_natCast, Int.reduceToNat, Int.toNat_zero, Nat.zero_mul]; exact rfl) ?_
                refine WD.r (tb := tb) rfl rfl rfl rfl (evQ_R rfl (evR_load rfl rfl rfl rfl (cellsI_get hy))) ?_
                refine WD.pDT (tb := tb) rfl rfl rfl rfl rfl (by omega) ?_
                refine WD.p (tb := tb) rfl rfl rfl rfl rfl ?_
                refine WD.p (tb := tb) rfl rfl rfl rfl rfl ?_
                refine WD.p (tb := tb) rfl rfl rfl rfl rfl ?_
                refine WD.p (tb := tb) rfl rfl rfl rfl rfl ?_
                refine WD.pW (tb := tb) rfl rfl rfl rfl rfl (by simp only [lo]; omega) (by simp only [Am.hi]; omega) ?_
                refine WD.pP (tb := tb) rfl rfl rfl rfl (evP_index rfl rfl rfl rfl rfl (by assumption) (by omega)) (by simp only [List.getElem_toArray, List.getElem_cons_zero, List.getElem_cons_succ, Nat.zero_add, Nat.add_zero, Nat.reduceAdd, Nat.reduceMul, Nat.add_assoc, Nat.mul_one, Int.toNat_natCast, Int.reduceToNat, Int.toNat_zero, Nat.zero_mul]; exact rfl) ?_
                refine WD.r (tb := tb) rfl rfl rfl rfl (evQ_R rfl (evR_load rfl rfl rfl rfl (cellsI_get hy))) ?_
                refine WD.pW (tb := tb) rfl rfl rfl rfl rfl (by simp only [lo]; omega) (by simp only [Am.hi]; omega) ?_
                refine WD.p (tb := tb) rfl rfl rfl rfl rfl ?_
                refine WD.p (tb := tb) rfl rfl rfl rfl rfl ?_
                refine WD.pP (tb := tb) rfl rfl rfl rfl (evP_index rfl rfl rfl rfl rfl rfl (by omega)) (by simp only [Nat.zero_add, Nat.add_zero, Nat.reduceAdd, Nat.reduceMul, Nat.add_assoc, Nat.mul_one]; exact rfl) ?_
                refine WD.r (tb := tb) rfl rfl rfl rfl (evQ_R rfl (evR_load rfl rfl rfl rfl (cellsI_get hx))) ?_
                refine WD.pDF (tb := tb) rfl rfl rfl rfl rfl (by omega) ?_
                refine WD.p (tb := tb) rfl rfl rfl rfl rfl ?_
                refine WD.fin rfl ?_
                refine WS.pcondF rfl rfl ?_
                refine WS.pskip rfl ?_
                refine WS.pregion rfl ?_
                refine WS.po (tb := tb) rfl rfl rfl rfl rfl ?_
                refine WS.po (tb := tb) rfl rfl rfl rfl rfl ?_
                refine WS.po (tb := tb) rfl rfl rfl rfl rfl ?_
                refine WS.po (tb := tb) rfl rfl rfl rfl rfl ?_
                refine WS.poP (tb := tb) rfl rfl rfl rfl (step_P (evP_index rfl rfl rfl rfl rfl rfl (by omega))) (by simp only [Nat.zero_add, Nat.add_zero, Nat.reduceAdd, Nat.reduceMul, Nat.add_assoc, Nat.mul_one]; exact rfl) ?_
                refine WS.po (tb := tb) rfl rfl rfl rfl (step_R rfl (evR_load rfl rfl rfl rfl (cellsI_get hx))) ?_
                refine WS.poA (tb := tb) rfl rfl rfl rfl rfl (by simp only [vcells, setL, List.set_cons_zero, List.set_cons_succ, List.getElem_toArray, List.getElem_cons_zero, List.getElem_cons_succ, Nat.zero_add, Nat.add_zero, Nat.reduceAdd, Nat.reduceMul, Nat.add_assoc, Nat.mul_one, Int.toNat_natCast, Int.reduceToNat, Int.toNat_zero, Nat.zero_mul]; exact rfl) ?_
                refine WS.po (tb := tb) rfl rfl rfl rfl rfl ?_; rw [new_mem]; simp only [List.cons_append, List.nil_append, vcells, mem_next, List.length_cons, List.length_nil, Nat.zero_add, Nat.reduceAdd, reps, List.append_nil, setL, List.set_cons_zero, List.set_cons_succ, Nat.zero_mul, Nat.reduceMul]
                refine WS.po (tb := tb) rfl rfl rfl rfl (step_H rfl rfl (evH_append_open rfl rfl rfl rfl rfl rfl rfl rfl rfl (by omega) rfl (Nat.zero_le _) (by omega) (cellsAt_all rfl rfl) (by first | exact rfl | (simp only [Run_len, vcells, List.length_cons, List.length_nil, cellsI_len, cellsB_len, List.length_set, List.length_replicate, List.length_append, List.length_map, List.length_take, List.length_drop]; omega) | omega) (by first | exact rfl | (simp only [Run_len, vcells, List.length_cons, List.length_nil, cellsI_len, cellsB_len, List.length_set, List.length_replicate, List.length_append, List.length_map, List.length_take, List.length_drop]; omega) | omega) rfl (by omega))) ?_; (try rw [upd_mem _ rfl]); (try rw [new_mem]); (try simp only [List.set_cons_zero, List.set_cons_succ, List.cons_append, List.nil_append, mem_next, List.length_cons, List.length_nil, Nat.zero_add, Nat.reduceAdd, List.drop_zero, vcells, cellsI_app1, cellsB_app1, cellsI_cons, repsI, repsB, Run_app1, Run_reps, roT])
                refine WS.po (tb := tb) rfl rfl rfl rfl rfl ?_
                refine WS.pend rfl ?_
                refine WS.pregion rfl ?_
                refine WS.po (tb := tb) rfl rfl rfl rfl rfl ?_
                refine WS.poW (tb := tb) rfl rfl rfl rfl rfl (by simp only [lo]; omega) (by simp only [Am.hi]; omega) ?_
                refine WS.po (tb := tb) rfl rfl rfl rfl rfl ?_
                refine WS.pend rfl ?_
                refine WS.nil ?_
                exact ⟨(i + 1, z :: (l ++ [(⟨i, 1, x⟩ : Run)])), ⟨by dsimp only; omega, e⟩, by dsimp only; omega, (SeenBy.seen (v := [0,3]) ⟨rfl, rfl, (by simp [viewP, okL, okV, mapL, mapV, mem_get, mapL_cellsR, okL_cellsR, roT, one_run]), (by first | exact rfl | exact own2_dist rfl rfl), (by simp only [slotsP, okV, okL, mapV, mapL, and_true, true_and, List.length_cons, List.length_nil, List.length_append, List.length_map, Nat.reduceAdd, Nat.reduceLT, roT, one_run]; repeat' (first | exact rfl | refine ⟨?_, ?_⟩ | exact lk_m rfl (hmp _ rfl) | exact hok _ (Nat.le_of_ble_eq_true rfl) | exact lk_i rfl (by omega) | exact lk_sl rfl (by omega) (by omega) (by omega) | decide | omega))⟩)⟩
              · refine WS.pseq rfl ?_
                refine WS.pseq rfl ?_
                refine WS.pregion rfl ?_
                refine WS.po (tb := tb) rfl rfl rfl rfl rfl ?_
                refine WS.po (tb := tb) rfl rfl rfl rfl rfl ?_
                refine WS.po (tb := tb) rfl rfl rfl rfl rfl ?_
                refine WS.poDT (tb := tb) rfl rfl rfl rfl rfl (by omega) ?_
                refine WS.pend rfl ?_
                refine WS.pcondT rfl rfl ?_
                refine WS.pskip rfl ?_
                refine WS.pseq rfl ?_
                refine WS.pblock rfl ?_
                refine WS.pseq rfl ?_
                refine WS.pseq rfl ?_
                refine WS.pregion rfl ?_
                refine WS.po (tb := tb) rfl rfl rfl rfl rfl ?_
                refine WS.po (tb := tb) rfl rfl rfl rfl rfl ?_
                refine WS.poP (tb := tb) rfl rfl rfl rfl (step_P (evP_index rfl rfl rfl rfl rfl rfl (by omega))) (by simp only [Nat.zero_add, Nat.add_zero, Nat.reduceAdd, Nat.reduceMul, Nat.add_assoc, Nat.mul_one]; exact rfl) ?_
                refine WS.po (tb := tb) rfl rfl rfl rfl (step_R rfl (evR_load rfl rfl rfl rfl (cellsI_get hx))) ?_
                refine WS.poDF (tb := tb) rfl rfl rfl rfl rfl (by omega) ?_
                refine WS.pend rfl ?_
                refine WS.pcondF rfl rfl ?_
                refine WS.pskip rfl ?_
                refine WS.pseq rfl ?_
                refine WS.pseq rfl ?_
                refine WS.pdraw (tb := tb) (by kernel_rfl) rfl (by kernel_rfl) (by kernel_rfl) ?_
                refine WD.p (tb := tb) rfl rfl rfl rfl rfl ?_
                refine WD.pDT (tb := tb) rfl rfl rfl rfl rfl (by omega) ?_
                refine WD.p (tb := tb) rfl rfl rfl rfl rfl ?_
                refine WD.p (tb := tb) rfl rfl rfl rfl rfl ?_
                refine WD.p (tb := tb) rfl rfl rfl rfl rfl ?_
                refine WD.pW (tb := tb) rfl rfl rfl rfl rfl (by simp only [lo]; omega) (by simp only [Am.hi]; omega) ?_
                refine WD.pP (tb := tb) rfl rfl rfl rfl (evP_index rfl rfl rfl rfl rfl (by assumption) (by omega)) (by simp only [List.getElem_toArray, List.getElem_cons_zero, List.getElem_cons_succ, Nat.zero_add, Nat.add_zero, Nat.reduceAdd, Nat.reduceMul, Nat.add_assoc, Nat.mul_one, Int.toNat_natCast, Int.reduceToNat, Int.toNat_zero, Nat.zero_mul]; exact rfl) ?_
                refine WD.r (tb := tb) rfl rfl rfl rfl (evQ_R rfl (evR_load rfl rfl rfl rfl (cellsI_get hy))) ?_
                refine WD.pDF (tb := tb) rfl rfl rfl rfl rfl (by omega) ?_
                refine WD.p (tb := tb) rfl rfl rfl rfl rfl ?_
                refine WD.p (tb := tb) rfl rfl rfl rfl rfl ?_
                refine WD.no rfl rfl rfl rfl ?_
                refine WD.no rfl rfl rfl rfl ?_
                refine WD.no rfl rfl rfl rfl ?_
                refine WD.no rfl rfl rfl rfl ?_
                refine WD.no1 rfl rfl rfl rfl ?_
                refine WD.no rfl rfl rfl rfl ?_
                refine WD.no rfl rfl rfl rfl ?_
                refine WD.no rfl rfl rfl rfl ?_
                refine WD.no rfl rfl rfl rfl ?_
                refine WD.no1 rfl rfl rfl rfl ?_
                refine WD.no rfl rfl rfl rfl ?_
                refine WD.p (tb := tb) rfl rfl rfl rfl rfl ?_
                refine WD.fin rfl ?_
                refine WS.pcondF rfl rfl ?_
                refine WS.pskip rfl ?_
                refine WS.pregion rfl ?_
                refine WS.po (tb := tb) rfl rfl rfl rfl rfl ?_
                refine WS.po (tb := tb) rfl rfl rfl rfl rfl ?_
                refine WS.po (tb := tb) rfl rfl rfl rfl rfl ?_
                refine WS.po (tb := tb) rfl rfl rfl rfl rfl ?_
                refine WS.poP (tb := tb) rfl rfl rfl rfl (step_P (evP_index rfl rfl rfl rfl rfl rfl (by omega))) (by simp only [Nat.zero_add, Nat.add_zero, Nat.reduceAdd, Nat.reduceMul, Nat.add_assoc, Nat.mul_one]; exact rfl) ?_
                refine WS.po (tb := tb) rfl rfl rfl rfl (step_R rfl (evR_load rfl rfl rfl rfl (cellsI_get hx))) ?_
                refine WS.poA (tb := tb) rfl rfl rfl rfl rfl (by simp only [vcells, setL, List.set_cons_zero, List.set_cons_succ, List.getElem_toArray, List.getElem_cons_zero, List.getElem_cons_succ, Nat.zero_add, Nat.add_zero, Nat.reduceAdd, Nat.reduceMul, Nat.add_assoc, Nat.mul_one, Int.toNat_natCast, Int.reduceToNat, Int.toNat_zero, Nat.zero_mul]; exact rfl) ?_
                refine WS.po (tb := tb) rfl rfl rfl rfl rfl ?_; rw [new_mem]; simp only [List.cons_append, List.nil_append, vcells, mem_next, List.length_cons, List.length_nil, Nat.zero_add, Nat.reduceAdd, reps, List.append_nil, setL, List.set_cons_zero, List.set_cons_succ, Nat.zero_mul, Nat.reduceMul]
                refine WS.po (tb := tb) rfl rfl rfl rfl (step_H rfl rfl (evH_append_open rfl rfl rfl rfl rfl rfl rfl rfl rfl (by omega) rfl (Nat.zero_le _) (by omega) (cellsAt_all rfl rfl) (by first | exact rfl | (simp only [Run_len, vcells, List.length_cons, List.length_nil, cellsI_len, cellsB_len, List.length_set, List.length_replicate, List.length_append, List.length_map, List.length_take, List.length_drop]; omega) | omega) (by first | exact rfl | (simp only [Run_len, vcells, List.length_cons, List.length_nil, cellsI_len, cellsB_len, List.length_set, List.length_replicate, List.length_append, List.length_map, List.length_take, List.length_drop]; omega) | omega) rfl (by omega))) ?_; (try rw [upd_mem _ rfl]); (try rw [new_mem]); (try simp only [List.set_cons_zero, List.set_cons_succ, List.cons_append, List.nil_append, mem_next, List.length_cons, List.length_nil, Nat.zero_add, Nat.reduceAdd, List.drop_zero, vcells, cellsI_app1, cellsB_app1, cellsI_cons, repsI, repsB, Run_app1, Run_reps, roT])
                refine WS.po (tb := tb) rfl rfl rfl rfl rfl ?_
                refine WS.pend rfl ?_
                refine WS.pregion rfl ?_
                refine WS.po (tb := tb) rfl rfl rfl rfl rfl ?_
                refine WS.poW (tb := tb) rfl rfl rfl rfl rfl (by simp only [lo]; omega) (by simp only [Am.hi]; omega) ?_
                refine WS.po (tb := tb) rfl rfl rfl rfl rfl ?_
                refine WS.pend rfl ?_
                refine WS.nil ?_
                exact ⟨(i + 1, z :: (l ++ [(⟨i, 1, x⟩ : Run)])), ⟨by dsimp only; omega, e⟩, by dsimp only; omega, (SeenBy.seen (v := [0,3]) ⟨rfl, rfl, (by simp [viewP, okL, okV, mapL, mapV, mem_get, mapL_cellsR, okL_cellsR, roT, one_run]), (by first | exact rfl | exact own2_dist rfl rfl), (by simp only [slotsP, okV, okL, mapV, mapL, and_true, true_and, List.length_cons, List.length_nil, List.length_append, List.length_map, Nat.reduceAdd, Nat.reduceLT, roT, one_run]; repeat' (first | exact rfl | refine ⟨?_, ?_⟩ | exact lk_m rfl (hmp _ rfl) | exact hok _ (Nat.le_of_ble_eq_true rfl) | exact lk_i rfl (by omega) | exact lk_sl rfl (by omega) (by omega) (by omega) | decide | omega))⟩)⟩
            · exfalso; omega
    · obtain rfl : i = t.length := by omega
      rcases L with _ | ⟨z, l⟩
      · simp only [roT, List.cons_append, List.nil_append]
        refine WS.pseq rfl ?_
        refine WS.pseq rfl ?_
        refine WS.pregion rfl ?_
        refine WS.po (tb := tb) rfl rfl rfl rfl rfl ?_
        refine WS.po (tb := tb) rfl rfl rfl rfl rfl ?_
        refine WS.po (tb := tb) rfl rfl rfl rfl rfl ?_
        refine WS.poDF (tb := tb) rfl rfl rfl rfl rfl (by omega) ?_
        refine WS.pend rfl ?_
        refine WS.pcondF rfl rfl ?_
        refine WS.pout rfl rfl ?_
        exact ⟨rfl, [], hL, (SeenBy.seen (v := [0,1]) ⟨rfl, rfl, (by simp [viewP, okL, okV, mapL, mapV, mem_get, mapL_cellsR, okL_cellsR, roT]), (by first | exact rfl | exact own2_dist rfl rfl), (by simp only [slotsP, okV, okL, mapV, mapL, and_true, true_and, List.length_cons, List.length_nil, List.length_append, List.length_map, Nat.reduceAdd, Nat.reduceLT, roT]; repeat' (first | exact rfl | refine ⟨?_, ?_⟩ | exact lk_m rfl (hmp _ rfl) | exact hok _ (Nat.le_of_ble_eq_true rfl) | exact lk_i rfl (by omega) | exact lk_sl rfl (by omega) (by omega) (by omega) | decide | omega))⟩)⟩
      · simp only [roT, List.cons_append, List.nil_append]
        refine WS.pseq rfl ?_
        refine WS.pseq rfl ?_
        refine WS.pregion rfl ?_
        refine WS.po (tb := tb) rfl rfl rfl rfl rfl ?_
        refine WS.po (tb := tb) rfl rfl rfl rfl rfl ?_
        refine WS.po (tb := tb) rfl rfl rfl rfl rfl ?_
        refine WS.poDF (tb := tb) rfl rfl rfl rfl rfl (by omega) ?_
        refine WS.pend rfl ?_
        refine WS.pcondF rfl rfl ?_
        refine WS.pout rfl rfl ?_
        exact ⟨rfl, z :: l, hL, (SeenBy.seen (v := [0,1]) ⟨rfl, rfl, (by simp [viewP, okL, okV, mapL, mapV, mem_get, mapL_cellsR, okL_cellsR, roT]), (by first | exact rfl | exact own2_dist rfl rfl), (by simp only [slotsP, okV, okL, mapV, mapL, and_true, true_and, List.length_cons, List.length_nil, List.length_append, List.length_map, Nat.reduceAdd, Nat.reduceLT, roT]; repeat' (first | exact rfl | refine ⟨?_, ?_⟩ | exact lk_m rfl (hmp _ rfl) | exact hok _ (Nat.le_of_ble_eq_true rfl) | exact lk_i rfl (by omega) | exact lk_sl rfl (by omega) (by omega) (by omega) | decide | omega))⟩)⟩
  · rintro b hbq
    rw [← hbq]
    rcases b with _ | ⟨z, l⟩
    · simp only [roT, List.cons_append, List.nil_append]
      refine WS.pseq rfl ?_
      refine WS.pregion rfl ?_
      refine WS.po (tb := tb) rfl rfl rfl rfl rfl ?_
      refine WS.po (tb := tb) rfl rfl rfl rfl rfl ?_
      refine WS.pend rfl ?_
      refine WS.pret rfl ⟨.inr rfl, _, rfl, ?_⟩
      exact ⟨_, rfl, [0,1], roT t ++ [some ⟨[], 55, true⟩], .sl (some (1,0)) 0 0 false, ⟨rfl, rfl, (by simp [viewP, okL, okV, mapL, mapV, mem_get, mapL_cellsR, okL_cellsR, roT]), rfl⟩, rfl, by simp [okV, roT], rfl, rfl⟩
    · simp only [roT, List.cons_append, List.nil_append]
      refine WS.pseq rfl ?_
      refine WS.pregion rfl ?_
      refine WS.po (tb := tb) rfl rfl rfl rfl rfl ?_
      refine WS.po (tb := tb) rfl rfl rfl rfl rfl ?_
      refine WS.pend rfl ?_
      refine WS.pret rfl ⟨.inr rfl, _, rfl, ?_⟩
      exact ⟨_, rfl, [0,1], roT t ++ [some ⟨cellsR rwRun (z :: l), 55, true⟩], .sl (some (1,0)) (l.length + 1) (l.length + 1) true, ⟨rfl, rfl, (by simp [viewP, okL, okV, mapL, mapV, mem_get, mapL_cellsR, okL_cellsR, roT]), rfl⟩, rfl, by simp [okV, roT], rfl, rfl⟩
end Go.Proofs.Ythhmapgolnkjcaa.Am

