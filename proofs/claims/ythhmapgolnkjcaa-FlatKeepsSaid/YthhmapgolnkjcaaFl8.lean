/- The reference's New, Right, Put; lists compared. Conditions: those of each theorem. -/
import Derived.Test.YthhmapgolnkjcaaFl6
namespace Go.Proofs.Ythhmapgolnkjcaa.Am
open Go.Proofs
set_option maxRecDepth 1000000
set_option maxHeartbeats 4000000
set_option linter.unusedSimpArgs false
set_option linter.unusedVariables false
theorem Run_eq (lba lba2 : Int) (len len2 : Int) (phys phys2 : Int) : eqB tb 100 55 (.agg [.i .i64 lba, .i .i64 len, .i .i64 phys]) (.agg [.i .i64 lba2, .i .i64 len2, .i .i64 phys2]) = decide (lba = lba2 ∧ len = len2 ∧ phys = phys2) := by
  have h : eqB tb 100 55 (.agg [.i .i64 lba, .i .i64 len, .i .i64 phys]) (.agg [.i .i64 lba2, .i .i64 len2, .i .i64 phys2]) = ((lba == lba2) && ((len == len2) && ((phys == phys2) && true))) := by kernel_rfl
  rw [h]; simp [Bool.beq_eq_decide_eq]
theorem Pie_eq (lba lba2 : Int) (len len2 : Int) (phys phys2 : Int) : eqB tb 100 56 (.agg [.i .i64 lba, .i .i64 len, .i .i64 phys]) (.agg [.i .i64 lba2, .i .i64 len2, .i .i64 phys2]) = decide (lba = lba2 ∧ len = len2 ∧ phys = phys2) := by
  have h : eqB tb 100 56 (.agg [.i .i64 lba, .i .i64 len, .i .i64 phys]) (.agg [.i .i64 lba2, .i .i64 len2, .i .i64 phys2]) = ((lba == lba2) && ((len == len2) && ((phys == phys2) && true))) := by kernel_rfl
  rw [h]; simp [Bool.beq_eq_decide_eq]
theorem refNew_walk (c : Nat) (h2 : c ≤ 512) : FM Try.prog 12 [.i .i64 c] [] (fun v M' => v = .sl (some (0,0)) c c false ∧ M' = [some ⟨cellsR (rwI .i64) (List.replicate c (-1)), 3, true⟩]) := by
  refine FM.pbody (tb := tb) (fn := Try.f12) rfl rfl ?_
  simp only [argS, Nat.reduceAdd, List.length_cons, List.length_nil]
  have e0 : List.replicate c (0 : Int) = half c 0 := by rw [replicate_mkl]; exact mkl_ext fun j _ => by rw [if_neg (by omega)]
  have e1 : half c c = List.replicate c (-1) := by rw [replicate_mkl]; exact mkl_ext fun j hj => by rw [if_pos hj]
  refine WS.pseq rfl ?_
  refine WS.pregion rfl ?_
  refine WS.po (tb := tb) rfl rfl rfl rfl rfl ?_
  refine WS.pend rfl ?_
  refine WS.pseq rfl ?_
  refine WS.pregion rfl ?_
  refine WS.po (tb := tb) rfl rfl rfl rfl rfl ?_
  refine WS.po (tb := tb) rfl rfl rfl rfl (step_H rfl rfl (evH_make (m := c) (n := c) rfl rfl rfl rfl rfl rfl rfl rfl (by omega) (by omega) (by omega) (Nat.le_refl _) (by omega) (by omega))) ?_; (try rw [upd_mem _ rfl]); (try rw [new_mem]); (try simp only [List.set_cons_zero, List.set_cons_succ, List.cons_append, List.nil_append, mem_next, List.length_cons, List.length_nil, Nat.zero_add, Nat.reduceAdd, List.drop_zero, vcells, cellsI_app1, cellsB_app1, cellsI_cons, repsI, repsB, Run_app1, Run_reps])
  refine WS.po (tb := tb) rfl rfl rfl rfl rfl ?_
  refine WS.pend rfl ?_
  refine WS.pseq rfl ?_
  refine WS.pseq rfl ?_
  refine WS.pregion rfl ?_
  refine WS.po (tb := tb) rfl rfl rfl rfl rfl ?_
  refine WS.pend rfl ?_
  refine WS.pblock rfl ?_
  rw [e0]
  refine WS.ploopI (σ := Nat) (τ := Unit) (fun i => [(0, .i .i64 c), (3, .sl (some (0,0)) c c false), (4, .i .i64 i)]) (fun i => [some ⟨cellsR (rwI .i64) (half c i), 3, true⟩]) (fun i => i ≤ c) (fun i => c - i)
    (fun _ => [(3, .sl (some (0,0)) c c false)]) (fun _ => [some ⟨cellsR (rwI .i64) (half c c), 3, true⟩]) (fun _ => True) 0 [0] 0 rfl (Nat.zero_le _) ⟨rfl, rfl, (by simp [viewP, okL, okV, mapL, mapV, mem_get, mapL_cellsR, okL_cellsR]), (by first | exact rfl | exact own2_dist rfl rfl), (by simp only [slotsP, okV, okL, mapV, mapL, and_true, true_and, List.length_cons, List.length_nil, List.length_append, List.length_map, Nat.reduceAdd, Nat.reduceLT]; repeat' (first | exact rfl | refine ⟨?_, ?_⟩ | exact lk_m rfl (hmp _ rfl) | exact hok _ (Nat.le_of_ble_eq_true rfl) | exact lk_i rfl (by omega) | exact lk_sl rfl (by omega) (by omega) (by omega) | decide | omega))⟩ rfl ?_ ?_
  · intro i hi
    have hlen : (half c i).length = c := by simp [half, mkl_len]
    by_cases h : i < c
    · have hs : setL (cellsR (rwI .i64) (half c i)) i [.i .i64 (-1)] = cellsR (rwI .i64) (half c (i + 1)) := (cellsI_set (by omega)).trans (congrArg _ (mkl_set (by rw [if_pos (by omega)]) fun j _ hj => by
        by_cases h7 : j < i
        · rw [if_pos h7, if_pos (by omega)]
        · rw [if_neg h7, if_neg (by omega)]))
      refine WS.pseq rfl ?_
      refine WS.pseq rfl ?_
      refine WS.pregion rfl ?_
      refine WS.po (tb := tb) rfl rfl rfl rfl rfl ?_
      refine WS.po (tb := tb) rfl rfl rfl rfl rfl ?_
      refine WS.poDT (tb := tb) rfl rfl rfl rfl rfl (by omega) ?_
      refine WS.pend rfl ?_
      refine WS.pcondT rfl rfl ?_
      refine WS.pskip rfl ?_
      refine WS.pseq rfl ?_
      refine WS.pblock rfl ?_
      refine WS.pregion rfl ?_
      refine WS.po (tb := tb) rfl rfl rfl rfl rfl ?_
      refine WS.po (tb := tb) rfl rfl rfl rfl rfl ?_
      refine WS.poP (tb := tb) rfl rfl rfl rfl (step_P (evP_index rfl rfl rfl rfl rfl rfl (by omega))) (by simp only [Nat.zero_add, Nat.add_zero, Nat.reduceAdd, Nat.reduceMul, Nat.add_assoc, Nat.mul_one]; exact rfl) ?_
      refine WS.po0 (tb := tb) rfl rfl rfl rfl (step_H rfl rfl (evH_store rfl rfl rfl rfl rfl (Nat.zero_le _) rfl (by simp [vcells]) (by simp only [Run_len, vcells, List.length_cons, List.length_nil, cellsI_len, cellsB_len, List.length_set, List.length_replicate, List.length_append, List.length_map, List.length_take, List.length_drop, hlen]; omega))) ?_; rw [upd_mem _ rfl]; simp only [vcells, List.set_cons_zero, List.set_cons_succ, hs]; (try simp only [setL, List.set_cons_zero, List.set_cons_succ])
      refine WS.pend rfl ?_
      refine WS.pregion rfl ?_
      refine WS.po (tb := tb) rfl rfl rfl rfl rfl ?_
      refine WS.poW (tb := tb) rfl rfl rfl rfl rfl (by simp only [lo]; omega) (by simp only [Am.hi]; omega) ?_
      refine WS.po (tb := tb) rfl rfl rfl rfl rfl ?_
      refine WS.pend rfl ?_
      refine WS.nil ?_
      exact ⟨i + 1, by omega, by omega, (SeenBy.seen (v := [0]) ⟨rfl, rfl, (by simp [viewP, okL, okV, mapL, mapV, mem_get, mapL_cellsR, okL_cellsR]), (by first | exact rfl | exact own2_dist rfl rfl), (by simp only [slotsP, okV, okL, mapV, mapL, and_true, true_and, List.length_cons, List.length_nil, List.length_append, List.length_map, Nat.reduceAdd, Nat.reduceLT]; repeat' (first | exact rfl | refine ⟨?_, ?_⟩ | exact lk_m rfl (hmp _ rfl) | exact hok _ (Nat.le_of_ble_eq_true rfl) | exact lk_i rfl (by omega) | exact lk_sl rfl (by omega) (by omega) (by omega) | decide | omega))⟩)⟩
    · obtain rfl : i = c := by omega
      refine WS.pseq rfl ?_
      refine WS.pseq rfl ?_
      refine WS.pregion rfl ?_
      refine WS.po (tb := tb) rfl rfl rfl rfl rfl ?_
      refine WS.po (tb := tb) rfl rfl rfl rfl rfl ?_
      refine WS.poDF (tb := tb) rfl rfl rfl rfl rfl (by omega) ?_
      refine WS.pend rfl ?_
      refine WS.pcondF rfl rfl ?_
      refine WS.pout rfl rfl ?_
      exact ⟨rfl, (), trivial, (SeenBy.seen (v := [0]) ⟨rfl, rfl, (by simp [viewP, okL, okV, mapL, mapV, mem_get, mapL_cellsR, okL_cellsR]), (by first | exact rfl | exact own2_dist rfl rfl), (by simp only [slotsP, okV, okL, mapV, mapL, and_true, true_and, List.length_cons, List.length_nil, List.length_append, List.length_map, Nat.reduceAdd, Nat.reduceLT]; repeat' (first | exact rfl | refine ⟨?_, ?_⟩ | exact lk_m rfl (hmp _ rfl) | exact hok _ (Nat.le_of_ble_eq_true rfl) | exact lk_i rfl (by omega) | exact lk_sl rfl (by omega) (by omega) (by omega) | decide | omega))⟩)⟩
  · rintro _ -
    rw [e1]
    refine WS.pseq rfl ?_
    refine WS.pregion rfl ?_
    refine WS.po (tb := tb) rfl rfl rfl rfl rfl ?_
    refine WS.po (tb := tb) rfl rfl rfl rfl rfl ?_
    refine WS.pend rfl ?_
    refine WS.pret rfl ⟨.inr rfl, _, rfl, ?_⟩
    exact ⟨_, rfl, rfl, rfl⟩
theorem refRight_walk (c lba n : Int) (hc : 0 ≤ c) (hc2 : c ≤ 1000) : FM Try.prog 16 [.i .i64 c, .i .i64 lba, .i .i64 n] [] (fun v M' => v = .b (rgt c lba n) ∧ M' = []) := by
  refine FM.pbody (tb := tb) (fn := Try.f16) rfl rfl ?_
  simp only [argS, Nat.reduceAdd, List.length_cons, List.length_nil]
  focus
    refine WS.pseq rfl ?_
    refine WS.pregion rfl ?_
    refine WS.po (tb := tb) rfl rfl rfl rfl rfl ?_
    refine WS.pend rfl ?_
    refine WS.pseq rfl ?_
    refine WS.pregion rfl ?_
    refine WS.po (tb := tb) rfl rfl rfl rfl rfl ?_
    refine WS.poDS (tb := tb) rfl rfl rfl rfl rfl (fun hb__ => ?_) (fun hb__ => ?_)
    refine WS.po (tb := tb) rfl rfl rfl rfl rfl ?_
    refine WS.po (tb := tb) rfl rfl rfl rfl rfl ?_
    refine WS.po (tb := tb) rfl rfl rfl rfl rfl ?_
    refine WS.poDS (tb := tb) rfl rfl rfl rfl rfl (fun hb__ => ?_) (fun hb__ => ?_)
    refine WS.po (tb := tb) rfl rfl rfl rfl rfl ?_
    refine WS.po (tb := tb) rfl rfl rfl rfl rfl ?_
    refine WS.po (tb := tb) rfl rfl rfl rfl rfl ?_
    refine WS.poDS (tb := tb) rfl rfl rfl rfl rfl (fun hb__ => ?_) (fun hb__ => ?_)
    refine WS.po (tb := tb) rfl rfl rfl rfl rfl ?_
    refine WS.po (tb := tb) rfl rfl rfl rfl rfl ?_
    refine WS.po (tb := tb) rfl rfl rfl rfl rfl ?_
    refine WS.po (tb := tb) rfl rfl rfl rfl rfl ?_
    refine WS.po (tb := tb) rfl rfl rfl rfl rfl ?_
    refine WS.poW (tb := tb) rfl rfl rfl rfl rfl (by simp only [lo]; omega) (by simp only [Am.hi]; omega) ?_
    refine WS.poDS (tb := tb) rfl rfl rfl rfl rfl (fun hb__ => ?_) (fun hb__ => ?_)
    refine WS.po (tb := tb) rfl rfl rfl rfl rfl ?_
    refine WS.po (tb := tb) rfl rfl rfl rfl rfl ?_
    refine WS.pend rfl ?_
    refine WS.pret rfl ⟨.inr rfl, _, rfl, ?_⟩
    rotate_left
    refine WS.po (tb := tb) rfl rfl rfl rfl rfl ?_
    refine WS.po (tb := tb) rfl rfl rfl rfl rfl ?_
    refine WS.pend rfl ?_
    refine WS.pret rfl ⟨.inr rfl, _, rfl, ?_⟩
    rotate_left
    refine WS.po (tb := tb) rfl rfl rfl rfl rfl ?_
    refine WS.po (tb := tb) rfl rfl rfl rfl rfl ?_
    refine WS.pono rfl rfl rfl rfl ?_
    refine WS.pono rfl rfl rfl rfl ?_
    refine WS.pono rfl rfl rfl rfl ?_
    refine WS.pono rfl rfl rfl rfl ?_
    refine WS.pono rfl rfl rfl rfl ?_
    refine WS.po (tb := tb) rfl rfl rfl rfl rfl ?_
    refine WS.po (tb := tb) rfl rfl rfl rfl rfl ?_
    refine WS.pend rfl ?_
    refine WS.pret rfl ⟨.inr rfl, _, rfl, ?_⟩
    rotate_left
    refine WS.po (tb := tb) rfl rfl rfl rfl rfl ?_
    refine WS.po (tb := tb) rfl rfl rfl rfl rfl ?_
    refine WS.pono rfl rfl rfl rfl ?_
    refine WS.pono rfl rfl rfl rfl ?_
    refine WS.po (tb := tb) rfl rfl rfl rfl rfl ?_
    refine WS.po (tb := tb) rfl rfl rfl rfl rfl ?_
    refine WS.pono rfl rfl rfl rfl ?_
    refine WS.pono rfl rfl rfl rfl ?_
    refine WS.pono rfl rfl rfl rfl ?_
    refine WS.pono rfl rfl rfl rfl ?_
    refine WS.pono rfl rfl rfl rfl ?_
    refine WS.po (tb := tb) rfl rfl rfl rfl rfl ?_
    refine WS.po (tb := tb) rfl rfl rfl rfl rfl ?_
    refine WS.pend rfl ?_
    refine WS.pret rfl ⟨.inr rfl, _, rfl, ?_⟩
    rotate_left
    refine WS.po (tb := tb) rfl rfl rfl rfl rfl ?_
    refine WS.pono rfl rfl rfl rfl ?_
    refine WS.pono rfl rfl rfl rfl ?_
    refine WS.pono rfl rfl rfl rfl ?_
    refine WS.po (tb := tb) rfl rfl rfl rfl rfl ?_
    refine WS.po (tb := tb) rfl rfl rfl rfl rfl ?_
    refine WS.pono rfl rfl rfl rfl ?_
    refine WS.pono rfl rfl rfl rfl ?_
    refine WS.po (tb := tb) rfl rfl rfl rfl rfl ?_
    refine WS.po (tb := tb) rfl rfl rfl rfl rfl ?_
    refine WS.pono rfl rfl rfl rfl ?_
    refine WS.pono rfl rfl rfl rfl ?_
    refine WS.pono rfl rfl rfl rfl ?_
    refine WS.pono rfl rfl rfl rfl ?_
    refine WS.pono rfl rfl rfl rfl ?_
    refine WS.po (tb := tb) rfl rfl rfl rfl rfl ?_
    refine WS.po (tb := tb) rfl rfl rfl rfl rfl ?_
    refine WS.pend rfl ?_
    refine WS.pret rfl ⟨.inr rfl, _, rfl, ?_⟩
    rotate_left
  all_goals exact ⟨_, rfl, by rw [rgt]; first | rw [decide_eq_true (by omega)] | rw [decide_eq_false (by omega)], rfl⟩
/-- The page of a place in a range: phys below 0 stands for nowhere. -/
def pgN (phys : Int) (i : Nat) : Int := if 0 ≤ phys then phys + i else -1
theorem put_walk (t : List Int) (c : Nat) (q : Bool) (lba n : Nat) (phys : Int) (h0 : 1 ≤ n) (h1 : lba + n ≤ t.length) (hl : t.length ≤ 1000) (hp : -1 ≤ phys) (hp1 : phys ≤ 1048576) : FM Try.prog 37 [.sl (some (0,0)) t.length c q, .i .i64 lba, .i .i64 n, .i .i64 phys] (roT t)
    (fun v M' => v = .sl (some (1,0)) t.length t.length true ∧ M' = roT t ++ [some ⟨cellsR (rwI .i64) (putN t lba n (pgN phys)), 3, true⟩]) := by
  refine FM.pbodyV (tb := tb) (fn := Try.f37) rfl rfl ?_
  simp only [argS, Nat.reduceAdd, roT, List.length_cons, List.length_nil]
  refine WS.pseq rfl ?_
  refine WS.pregion rfl ?_
  refine WS.po (tb := tb) rfl rfl rfl rfl rfl ?_
  refine WS.pend rfl ?_
  refine WS.pseq rfl ?_
  refine WS.pregion rfl ?_
  refine WS.po (tb := tb) rfl rfl rfl rfl rfl ?_; rw [new_mem]; simp only [List.cons_append, List.nil_append, vcells, mem_next, List.length_cons, List.length_nil, Nat.zero_add, Nat.reduceAdd, reps, List.append_nil, setL, List.set_cons_zero, List.set_cons_succ, Nat.zero_mul, Nat.reduceMul]
  refine WS.po (tb := tb) rfl rfl rfl rfl rfl ?_
  refine WS.po (tb := tb) rfl rfl rfl rfl (step_H rfl rfl (evH_append_empty rfl rfl rfl rfl rfl rfl rfl rfl rfl (by omega) (by omega) (cellsAt_row (R := rwI .i64) rfl (by simp [rwI])) (by first | exact rfl | (simp only [Run_len, vcells, List.length_cons, List.length_nil, cellsI_len, cellsB_len, List.length_set, List.length_replicate, List.length_append, List.length_map, List.length_take, List.length_drop]; omega) | omega) (by omega))) ?_; (try rw [upd_mem _ rfl]); (try rw [new_mem]); (try simp only [List.set_cons_zero, List.set_cons_succ, List.cons_append, List.nil_append, mem_next, List.length_cons, List.length_nil, Nat.zero_add, Nat.reduceAdd, List.drop_zero, vcells, cellsI_app1, cellsB_app1, cellsI_cons, repsI, repsB, Run_app1, Run_reps])
  refine WS.po (tb := tb) rfl rfl rfl rfl rfl ?_
  refine WS.pend rfl ?_
  refine WS.pseq rfl ?_
  refine WS.pseq rfl ?_
  refine WS.pregion rfl ?_
  refine WS.po (tb := tb) rfl rfl rfl rfl rfl ?_
  refine WS.pend rfl ?_
  refine WS.pblock rfl ?_
  refine WS.ploopI (σ := Nat) (τ := Unit) (fun i => [(1, .i .i64 lba), (2, .i .i64 n), (3, .i .i64 phys), (9, .sl (some (1,0)) t.length t.length true), (10, .i .i64 i)]) (fun i => roT t ++ [some ⟨cellsR (rwI .i64) (putN t lba i (pgN phys)), 3, true⟩]) (fun i => i ≤ n) (fun i => n - i)
    (fun _ => [(9, .sl (some (1,0)) t.length t.length true)]) (fun _ => roT t ++ [some ⟨cellsR (rwI .i64) (putN t lba n (pgN phys)), 3, true⟩]) (fun _ => True) 0 [0,2] 0 rfl (Nat.zero_le _) ⟨rfl, rfl, (by simp [viewP, okL, okV, mapL, mapV, mem_get, mapL_cellsR, okL_cellsR, roT, putN_zero]), (by first | exact rfl | exact own2_dist rfl rfl), (by simp only [slotsP, okV, okL, mapV, mapL, and_true, true_and, List.length_cons, List.length_nil, List.length_append, List.length_map, Nat.reduceAdd, Nat.reduceLT, roT, putN_zero]; repeat' (first | exact rfl | refine ⟨?_, ?_⟩ | exact lk_m rfl (hmp _ rfl) | exact hok _ (Nat.le_of_ble_eq_true rfl) | exact lk_i rfl (by omega) | exact lk_sl rfl (by omega) (by omega) (by omega) | decide | omega))⟩ rfl ?_ ?_
  · intro i hi
    have hlen := putN_len t lba i (pgN phys)
    simp only [roT, List.cons_append, List.nil_append]
    by_cases h : i < n
    · have e1 : (lba : Int) + i = ((lba + i : Nat) : Int) := by omega
      have hs0 : setL (cellsR (rwI .i64) (putN t lba i (pgN phys))) (lba + i) [.i .i64 (-1)] = cellsR (rwI .i64) ((putN t lba i (pgN phys)).set (lba + i) (-1)) := cellsI_set (by omega)
      have hlen2 : ((putN t lba i (pgN phys)).set (lba + i) (-1)).length = t.length := by simp [hlen]
      have hs2 : setL (cellsR (rwI .i64) ((putN t lba i (pgN phys)).set (lba + i) (-1))) (lba + i) [.i .i64 (phys + i)] = cellsR (rwI .i64) ((putN t lba i (pgN phys)).set (lba + i) (phys + i)) := (cellsI_set (by omega)).trans (by rw [List.set_set])
      have hput := putN_set t lba i (pgN phys)
      by_cases h7 : 0 ≤ phys
      · rw [show pgN phys i = phys + i by rw [pgN, if_pos h7]] at hput
        refine WS.pseq rfl ?_
        refine WS.pseq rfl ?_
        refine WS.pregion rfl ?_
        refine WS.po (tb := tb) rfl rfl rfl rfl rfl ?_
        refine WS.po (tb := tb) rfl rfl rfl rfl rfl ?_
        refine WS.poDT (tb := tb) rfl rfl rfl rfl rfl (by omega) ?_
        refine WS.pend rfl ?_
        refine WS.pcondT rfl rfl ?_
        refine WS.pskip rfl ?_
        refine WS.pseq rfl ?_
        refine WS.pblock rfl ?_
        refine WS.pseq rfl ?_
        refine WS.pregion rfl ?_
        refine WS.po (tb := tb) rfl rfl rfl rfl rfl ?_
        refine WS.po (tb := tb) rfl rfl rfl rfl rfl ?_
        refine WS.po (tb := tb) rfl rfl rfl rfl rfl ?_
        refine WS.poW (tb := tb) rfl rfl rfl rfl rfl (by simp only [lo]; omega) (by simp only [Am.hi]; omega) ?_
        refine WS.poP (tb := tb) rfl rfl rfl rfl (step_P (evP_index rfl rfl rfl rfl rfl rfl (by omega))) (by simp only [Nat.zero_add, Nat.add_zero, Nat.reduceAdd, Nat.reduceMul, Nat.add_assoc, Nat.mul_one]; exact rfl) ?_
        refine WS.po0 (tb := tb) rfl rfl rfl rfl (step_H rfl rfl (evH_store rfl rfl rfl rfl rfl (Nat.zero_le _) rfl (by simp [vcells]) (by simp only [Run_len, vcells, List.length_cons, List.length_nil, cellsI_len, cellsB_len, List.length_set, List.length_replicate, List.length_append, List.length_map, List.length_take, List.length_drop, hlen, hlen2]; omega))) ?_; rw [upd_mem _ rfl]; simp only [vcells, List.set_cons_zero, List.set_cons_succ, hs0, hs2, hput]; (try simp only [setL, List.set_cons_zero, List.set_cons_succ])
        refine WS.pend rfl ?_
        refine WS.pseq rfl ?_
        refine WS.pregion rfl ?_
        refine WS.po (tb := tb) rfl rfl rfl rfl rfl ?_
        refine WS.poDT (tb := tb) rfl rfl rfl rfl rfl (by omega) ?_
        refine WS.pend rfl ?_
        refine WS.pcondT rfl rfl ?_
        refine WS.pregion rfl ?_
        refine WS.po (tb := tb) rfl rfl rfl rfl rfl ?_
        refine WS.po (tb := tb) rfl rfl rfl rfl rfl ?_
        refine WS.po (tb := tb) rfl rfl rfl rfl rfl ?_
        refine WS.poW (tb := tb) rfl rfl rfl rfl rfl (by simp only [lo]; omega) (by simp only [Am.hi]; omega) ?_
        refine WS.po (tb := tb) rfl rfl rfl rfl rfl ?_
        refine WS.po (tb := tb) rfl rfl rfl rfl rfl ?_
        refine WS.poW (tb := tb) rfl rfl rfl rfl rfl (by simp only [lo]; omega) (by simp only [Am.hi]; omega) ?_
        refine WS.poP (tb := tb) rfl rfl rfl rfl (step_P (evP_index rfl rfl rfl rfl rfl rfl (by omega))) (by simp only [Nat.zero_add, Nat.add_zero, Nat.reduceAdd, Nat.reduceMul, Nat.add_assoc, Nat.mul_one]; exact rfl) ?_
        refine WS.po0 (tb := tb) rfl rfl rfl rfl (step_H rfl rfl (evH_store rfl rfl rfl rfl rfl (Nat.zero_le _) rfl (by simp [vcells]) (by simp only [Run_len, vcells, List.length_cons, List.length_nil, cellsI_len, cellsB_len, List.length_set, List.length_replicate, List.length_append, List.length_map, List.length_take, List.length_drop, hlen, hlen2]; omega))) ?_; rw [upd_mem _ rfl]; simp only [vcells, List.set_cons_zero, List.set_cons_succ, hs0, hs2, hput]; (try simp only [setL, List.set_cons_zero, List.set_cons_succ])
        refine WS.pend rfl ?_
        refine WS.pregion rfl ?_
        refine WS.po (tb := tb) rfl rfl rfl rfl rfl ?_
        refine WS.poW (tb := tb) rfl rfl rfl rfl rfl (by simp only [lo]; omega) (by simp only [Am.hi]; omega) ?_
        refine WS.po (tb := tb) rfl rfl rfl rfl rfl ?_
        refine WS.pend rfl ?_
        refine WS.nil ?_
        exact ⟨i + 1, by omega, by omega, (SeenBy.seen (v := [0,1]) ⟨rfl, rfl, (by simp [viewP, okL, okV, mapL, mapV, mem_get, mapL_cellsR, okL_cellsR, roT]), (by first | exact rfl | exact own2_dist rfl rfl), (by simp only [slotsP, okV, okL, mapV, mapL, and_true, true_and, List.length_cons, List.length_nil, List.length_append, List.length_map, Nat.reduceAdd, Nat.reduceLT, roT]; repeat' (first | exact rfl | refine ⟨?_, ?_⟩ | exact lk_m rfl (hmp _ rfl) | exact hok _ (Nat.le_of_ble_eq_true rfl) | exact lk_i rfl (by omega) | exact lk_sl rfl (by omega) (by omega) (by omega) | decide | omega))⟩)⟩
      · rw [show pgN phys i = -1 by rw [pgN, if_neg h7]] at hput
        refine WS.pseq rfl ?_
        refine WS.pseq rfl ?_
        refine WS.pregion rfl ?_
        refine WS.po (tb := tb) rfl rfl rfl rfl rfl ?_
        refine WS.po (tb := tb) rfl rfl rfl rfl rfl ?_
        refine WS.poDT (tb := tb) rfl rfl rfl rfl rfl (by omega) ?_
        refine WS.pend rfl ?_
        refine WS.pcondT rfl rfl ?_
        refine WS.pskip rfl ?_
        refine WS.pseq rfl ?_
        refine WS.pblock rfl ?_
        refine WS.pseq rfl ?_
        refine WS.pregion rfl ?_
        refine WS.po (tb := tb) rfl rfl rfl rfl rfl ?_
        refine WS.po (tb := tb) rfl rfl rfl rfl rfl ?_
        refine WS.po (tb := tb) rfl rfl rfl rfl rfl ?_
        refine WS.poW (tb := tb) rfl rfl rfl rfl rfl (by simp only [lo]; omega) (by simp only [Am.hi]; omega) ?_
        refine WS.poP (tb := tb) rfl rfl rfl rfl (step_P (evP_index rfl rfl rfl rfl rfl rfl (by omega))) (by simp only [Nat.zero_add, Nat.add_zero, Nat.reduceAdd, Nat.reduceMul, Nat.add_assoc, Nat.mul_one]; exact rfl) ?_
        refine WS.po0 (tb := tb) rfl rfl rfl rfl (step_H rfl rfl (evH_store rfl rfl rfl rfl rfl (Nat.zero_le _) rfl (by simp [vcells]) (by simp only [Run_len, vcells, List.length_cons, List.length_nil, cellsI_len, cellsB_len, List.length_set, List.length_replicate, List.length_append, List.length_map, List.length_take, List.length_drop, hlen]; omega))) ?_; rw [upd_mem _ rfl]; simp only [vcells, List.set_cons_zero, List.set_cons_succ, hs0, hput]; (try simp only [setL, List.set_cons_zero, List.set_cons_succ])
        refine WS.pend rfl ?_
        refine WS.pseq rfl ?_
        refine WS.pregion rfl ?_
        refine WS.po (tb := tb) rfl rfl rfl rfl rfl ?_
        refine WS.poDF (tb := tb) rfl rfl rfl rfl rfl (by omega) ?_
        refine WS.pend rfl ?_
        refine WS.pcondF rfl rfl ?_
        refine WS.pskip rfl ?_
        refine WS.pregion rfl ?_
        refine WS.po (tb := tb) rfl rfl rfl rfl rfl ?_
        refine WS.poW (tb := tb) rfl rfl rfl rfl rfl (by simp only [lo]; omega) (by simp only [Am.hi]; omega) ?_
        refine WS.po (tb := tb) rfl rfl rfl rfl rfl ?_
        refine WS.pend rfl ?_
        refine WS.nil ?_
        exact ⟨i + 1, by omega, by omega, (SeenBy.seen (v := [0,1]) ⟨rfl, rfl, (by simp [viewP, okL, okV, mapL, mapV, mem_get, mapL_cellsR, okL_cellsR, roT]), (by first | exact rfl | exact own2_dist rfl rfl), (by simp only [slotsP, okV, okL, mapV, mapL, and_true, true_and, List.length_cons, List.length_nil, List.length_append, List.length_map, Nat.reduceAdd, Nat.reduceLT, roT]; repeat' (first | exact rfl | refine ⟨?_, ?_⟩ | exact lk_m rfl (hmp _ rfl) | exact hok _ (Nat.le_of_ble_eq_true rfl) | exact lk_i rfl (by omega) | exact lk_sl rfl (by omega) (by omega) (by omega) | decide | omega))⟩)⟩
    · obtain rfl : i = n := by omega
      refine WS.pseq rfl ?_
      refine WS.pseq rfl ?_
      refine WS.pregion rfl ?_
      refine WS.po (tb := tb) rfl rfl rfl rfl rfl ?_
      refine WS.po (tb := tb) rfl rfl rfl rfl rfl ?_
      refine WS.poDF (tb := tb) rfl rfl rfl rfl rfl (by omega) ?_
      refine WS.pend rfl ?_
      refine WS.pcondF rfl rfl ?_
      refine WS.pout rfl rfl ?_
      exact ⟨rfl, (), trivial, (SeenBy.seen (v := [0,1]) ⟨rfl, rfl, (by simp [viewP, okL, okV, mapL, mapV, mem_get, mapL_cellsR, okL_cellsR, roT]), (by first | exact rfl | exact own2_dist rfl rfl), (by simp only [slotsP, okV, okL, mapV, mapL, and_true, true_and, List.length_cons, List.length_nil, List.length_append, List.length_map, Nat.reduceAdd, Nat.reduceLT, roT]; repeat' (first | exact rfl | refine ⟨?_, ?_⟩ | exact lk_m rfl (hmp _ rfl) | exact hok _ (Nat.le_of_ble_eq_true rfl) | exact lk_i rfl (by omega) | exact lk_sl rfl (by omega) (by omega) (by omega) | decide | omega))⟩)⟩
  · rintro _ -
    simp only [roT, List.cons_append, List.nil_append]
    refine WS.pseq rfl ?_
    refine WS.pregion rfl ?_
    refine WS.po (tb := tb) rfl rfl rfl rfl rfl ?_
    refine WS.po (tb := tb) rfl rfl rfl rfl rfl ?_
    refine WS.pend rfl ?_
    refine WS.pret rfl ⟨.inr rfl, _, rfl, ?_⟩
    exact ⟨_, rfl, [0,1], roT t ++ [some ⟨cellsR (rwI .i64) (putN t lba n (pgN phys)), 3, true⟩], .sl (some (1,0)) t.length t.length true, ⟨rfl, rfl, (by simp [viewP, okL, okV, mapL, mapV, mem_get, mapL_cellsR, okL_cellsR, roT]), rfl⟩, rfl, Nat.lt_succ_self _, rfl, rfl⟩

theorem same_walk (l : List Run) (c c2 : Nat) (q q2 : Bool) (hl : l.length ≤ 1000) : FM Try.prog 25 [.sl (some (0,0)) l.length c q, .sl (some (1,0)) l.length c2 q2] [some ⟨cellsR rwRun l, 55, false⟩, some ⟨cellsR rwRun l, 55, false⟩] (fun v M' => v = .b true ∧ M' = [some ⟨cellsR rwRun l, 55, false⟩, some ⟨cellsR rwRun l, 55, false⟩]) := by
  refine FM.pbody (tb := tb) (fn := Try.f25) rfl rfl ?_
  simp only [argS, Nat.reduceAdd, List.length_cons, List.length_nil]
  refine WS.pseq rfl ?_
  refine WS.pregion rfl ?_
  refine WS.po (tb := tb) rfl rfl rfl rfl rfl ?_
  refine WS.pend rfl ?_
  refine WS.pseq rfl ?_
  refine WS.pseq rfl ?_
  refine WS.pregion rfl ?_
  refine WS.po (tb := tb) rfl rfl rfl rfl rfl ?_
  refine WS.po (tb := tb) rfl rfl rfl rfl rfl ?_
  refine WS.po (tb := tb) rfl rfl rfl rfl rfl ?_
  refine WS.po (tb := tb) rfl rfl rfl rfl rfl ?_
  refine WS.poNF (tb := tb) rfl rfl rfl rfl rfl (by omega) ?_
  refine WS.pend rfl ?_
  refine WS.pcondF rfl rfl ?_
  refine WS.pskip rfl ?_
  refine WS.pseq rfl ?_
  refine WS.pseq rfl ?_
  refine WS.pregion rfl ?_
  refine WS.po (tb := tb) rfl rfl rfl rfl rfl ?_
  refine WS.pend rfl ?_
  refine WS.pblock rfl ?_
  refine WS.ploopI (σ := Nat) (τ := Unit) (fun i => [(0, .sl (some (0,0)) l.length c q), (1, .sl (some (1,0)) l.length c2 q2), (5, .i .i64 i)]) (fun _ => [some ⟨cellsR rwRun l, 55, false⟩, some ⟨cellsR rwRun l, 55, false⟩]) (fun i => i ≤ l.length) (fun i => l.length - i)
    (fun _ => []) (fun _ => [some ⟨cellsR rwRun l, 55, false⟩, some ⟨cellsR rwRun l, 55, false⟩]) (fun _ => True) 0 [0,1] 0 rfl (Nat.zero_le _) ⟨rfl, rfl, (by simp [viewP, okL, okV, mapL, mapV, mem_get, mapL_cellsR, okL_cellsR]), (by first | exact rfl | exact own2_dist rfl rfl), (by simp only [slotsP, okV, okL, mapV, mapL, and_true, true_and, List.length_cons, List.length_nil, List.length_append, List.length_map, Nat.reduceAdd, Nat.reduceLT]; repeat' (first | exact rfl | refine ⟨?_, ?_⟩ | exact lk_m rfl (hmp _ rfl) | exact hok _ (Nat.le_of_ble_eq_true rfl) | exact lk_i rfl (by omega) | exact lk_sl rfl (by omega) (by omega) (by omega) | decide | omega))⟩ rfl ?_ ?_
  · intro i hi
    by_cases h : i < l.length
    · obtain ⟨x, hx⟩ : ∃ x, l[i]? = some x := ⟨_, List.getElem?_eq_getElem h⟩
      refine WS.pseq rfl ?_
      refine WS.pseq rfl ?_
      refine WS.pregion rfl ?_
      refine WS.po (tb := tb) rfl rfl rfl rfl rfl ?_
      refine WS.po (tb := tb) rfl rfl rfl rfl rfl ?_
      refine WS.po (tb := tb) rfl rfl rfl rfl rfl ?_
      refine WS.poDT (tb := tb) rfl rfl rfl rfl rfl (by omega) ?_
      refine WS.pend rfl ?_
      refine WS.pcondT rfl rfl ?_
      refine WS.pskip rfl ?_
      refine WS.pseq rfl ?_
      refine WS.pblock rfl ?_
      refine WS.pseq rfl ?_
      refine WS.pdraw (tb := tb) (by kernel_rfl) rfl (by kernel_rfl) (by kernel_rfl) ?_
      refine WD.p (tb := tb) rfl rfl rfl rfl rfl ?_
      refine WD.p (tb := tb) rfl rfl rfl rfl rfl ?_
      refine WD.pP (tb := tb) rfl rfl rfl rfl (evP_index rfl rfl rfl rfl rfl rfl (by omega)) (by simp only [Nat.zero_add, Nat.add_zero, Nat.reduceAdd, Nat.reduceMul, Nat.add_assoc, Nat.mul_one]; exact rfl) ?_
      refine WD.rA (tb := tb) rfl rfl rfl rfl (evQ_R rfl (evR_loads rfl rfl rfl rfl rfl (by exact (cellsR_part0 (R := rwRun) hx (by exact Nat.le_of_ble_eq_true rfl))) (by exact rfl))) (by simp only [List.drop_zero, List.drop_succ_cons, List.take_succ_cons, List.take_zero, rwRun]; exact rfl) ?_
      refine WD.p (tb := tb) rfl rfl rfl rfl rfl ?_
      refine WD.p (tb := tb) rfl rfl rfl rfl rfl ?_
      refine WD.pP (tb := tb) rfl rfl rfl rfl (evP_index rfl rfl rfl rfl rfl rfl (by omega)) (by simp only [Nat.zero_add, Nat.add_zero, Nat.reduceAdd, Nat.reduceMul, Nat.add_assoc, Nat.mul_one]; exact rfl) ?_
      refine WD.rA (tb := tb) rfl rfl rfl rfl (evQ_R rfl (evR_loads rfl rfl rfl rfl rfl (by exact (cellsR_part0 (R := rwRun) hx (by exact Nat.le_of_ble_eq_true rfl))) (by exact rfl))) (by simp only [List.drop_zero, List.drop_succ_cons, List.take_succ_cons, List.take_zero, rwRun]; exact rfl) ?_
      refine WD.pB (tb := tb) false rfl rfl rfl rfl (evP_neq rfl rfl rfl (by kernel_rfl) (by kernel_rfl)) (by rw [Run_eq]; exact nd_f (by omega)) ?_
      refine WD.fin rfl ?_
      refine WS.pcondF rfl rfl ?_
      refine WS.pskip rfl ?_
      refine WS.pregion rfl ?_
      refine WS.po (tb := tb) rfl rfl rfl rfl rfl ?_
      refine WS.poW (tb := tb) rfl rfl rfl rfl rfl (by simp only [lo]; omega) (by simp only [Am.hi]; omega) ?_
      refine WS.po (tb := tb) rfl rfl rfl rfl rfl ?_
      refine WS.pend rfl ?_
      refine WS.nil ?_
      exact ⟨i + 1, by omega, by omega, (SeenBy.seen (v := [0,1]) ⟨rfl, rfl, (by simp [viewP, okL, okV, mapL, mapV, mem_get, mapL_cellsR, okL_cellsR]), (by first | exact rfl | exact own2_dist rfl rfl), (by simp only [slotsP, okV, okL, mapV, mapL, and_true, true_and, List.length_cons, List.length_nil, List.length_append, List.length_map, Nat.reduceAdd, Nat.reduceLT]; repeat' (first | exact rfl | refine ⟨?_, ?_⟩ | exact lk_m rfl (hmp _ rfl) | exact hok _ (Nat.le_of_ble_eq_true rfl) | exact lk_i rfl (by omega) | exact lk_sl rfl (by omega) (by omega) (by omega) | decide | omega))⟩)⟩
    · refine WS.pseq rfl ?_
      refine WS.pseq rfl ?_
      refine WS.pregion rfl ?_
      refine WS.po (tb := tb) rfl rfl rfl rfl rfl ?_
      refine WS.po (tb := tb) rfl rfl rfl rfl rfl ?_
      refine WS.po (tb := tb) rfl rfl rfl rfl rfl ?_
      refine WS.poDF (tb := tb) rfl rfl rfl rfl rfl (by omega) ?_
      refine WS.pend rfl ?_
      refine WS.pcondF rfl rfl ?_
      refine WS.pout rfl rfl ?_
      exact ⟨rfl, (), trivial, (SeenBy.seen (v := [0,1]) ⟨rfl, rfl, (by simp [viewP, okL, okV, mapL, mapV, mem_get, mapL_cellsR, okL_cellsR]), (by first | exact rfl | exact own2_dist rfl rfl), (by simp only [slotsP, okV, okL, mapV, mapL, and_true, true_and, List.length_cons, List.length_nil, List.length_append, List.length_map, Nat.reduceAdd, Nat.reduceLT]; repeat' (first | exact rfl | refine ⟨?_, ?_⟩ | exact lk_m rfl (hmp _ rfl) | exact hok _ (Nat.le_of_ble_eq_true rfl) | exact lk_i rfl (by omega) | exact lk_sl rfl (by omega) (by omega) (by omega) | decide | omega))⟩)⟩
  · rintro _ -
    refine WS.pseq rfl ?_
    refine WS.pregion rfl ?_
    refine WS.po (tb := tb) rfl rfl rfl rfl rfl ?_
    refine WS.pend rfl ?_
    refine WS.pret rfl ⟨.inr rfl, _, rfl, ?_⟩
    exact ⟨_, rfl, rfl, rfl⟩

theorem pieces_walk (l : List Run) (c c2 : Nat) (q q2 : Bool) (hl : l.length ≤ 1000) : FM Try.prog 22 [.sl (some (0,0)) l.length c q, .sl (some (1,0)) l.length c2 q2] [some ⟨cellsR rwRun l, 56, false⟩, some ⟨cellsR rwRun l, 56, false⟩] (fun v M' => v = .b true ∧ M' = [some ⟨cellsR rwRun l, 56, false⟩, some ⟨cellsR rwRun l, 56, false⟩]) := by
  refine FM.pbody (tb := tb) (fn := Try.f22) rfl rfl ?_
  simp only [argS, Nat.reduceAdd, List.length_cons, List.length_nil]
  refine WS.pseq rfl ?_
  refine WS.pregion rfl ?_
  refine WS.po (tb := tb) rfl rfl rfl rfl rfl ?_
  refine WS.pend rfl ?_
  refine WS.pseq rfl ?_
  refine WS.pseq rfl ?_
  refine WS.pregion rfl ?_
  refine WS.po (tb := tb) rfl rfl rfl rfl rfl ?_
  refine WS.po (tb := tb) rfl rfl rfl rfl rfl ?_
  refine WS.po (tb := tb) rfl rfl rfl rfl rfl ?_
  refine WS.po (tb := tb) rfl rfl rfl rfl rfl ?_
  refine WS.poNF (tb := tb) rfl rfl rfl rfl rfl (by omega) ?_
  refine WS.pend rfl ?_
  refine WS.pcondF rfl rfl ?_
  refine WS.pskip rfl ?_
  refine WS.pseq rfl ?_
  refine WS.pseq rfl ?_
  refine WS.pregion rfl ?_
  refine WS.po (tb := tb) rfl rfl rfl rfl rfl ?_
  refine WS.pend rfl ?_
  refine WS.pblock rfl ?_
  refine WS.ploopI (σ := Nat) (τ := Unit) (fun i => [(0, .sl (some (0,0)) l.length c q), (1, .sl (some (1,0)) l.length c2 q2), (5, .i .i64 i)]) (fun _ => [some ⟨cellsR rwRun l, 56, false⟩, some ⟨cellsR rwRun l, 56, false⟩]) (fun i => i ≤ l.length) (fun i => l.length - i)
    (fun _ => []) (fun _ => [some ⟨cellsR rwRun l, 56, false⟩, some ⟨cellsR rwRun l, 56, false⟩]) (fun _ => True) 0 [0,1] 0 rfl (Nat.zero_le _) ⟨rfl, rfl, (by simp [viewP, okL, okV, mapL, mapV, mem_get, mapL_cellsR, okL_cellsR]), (by first | exact rfl | exact own2_dist rfl rfl), (by simp only [slotsP, okV, okL, mapV, mapL, and_true, true_and, List.length_cons, List.length_nil, List.length_append, List.length_map, Nat.reduceAdd, Nat.reduceLT]; repeat' (first | exact rfl | refine ⟨?_, ?_⟩ | exact lk_m rfl (hmp _ rfl) | exact hok _ (Nat.le_of_ble_eq_true rfl) | exact lk_i rfl (by omega) | exact lk_sl rfl (by omega) (by omega) (by omega) | decide | omega))⟩ rfl ?_ ?_
  · intro i hi
    by_cases h : i < l.length
    · obtain ⟨x, hx⟩ : ∃ x, l[i]? = some x := ⟨_, List.getElem?_eq_getElem h⟩
      refine WS.pseq rfl ?_
      refine WS.pseq rfl ?_
      refine WS.pregion rfl ?_
      refine WS.po (tb := tb) rfl rfl rfl rfl rfl ?_
      refine WS.po (tb := tb) rfl rfl rfl rfl rfl ?_
      refine WS.po (tb := tb) rfl rfl rfl rfl rfl ?_
      refine WS.poDT (tb := tb) rfl rfl rfl rfl rfl (by omega) ?_
      refine WS.pend rfl ?_
      refine WS.pcondT rfl rfl ?_
      refine WS.pskip rfl ?_
      refine WS.pseq rfl ?_
      refine WS.pblock rfl ?_
      refine WS.pseq rfl ?_
      refine WS.pdraw (tb := tb) (by kernel_rfl) rfl (by kernel_rfl) (by kernel_rfl) ?_
      refine WD.p (tb := tb) rfl rfl rfl rfl rfl ?_
      refine WD.p (tb := tb) rfl rfl rfl rfl rfl ?_
      refine WD.pP (tb := tb) rfl rfl rfl rfl (evP_index rfl rfl rfl rfl rfl rfl (by omega)) (by simp only [Nat.zero_add, Nat.add_zero, Nat.reduceAdd, Nat.reduceMul, Nat.add_assoc, Nat.mul_one]; exact rfl) ?_
      refine WD.rA (tb := tb) rfl rfl rfl rfl (evQ_R rfl (evR_loads rfl rfl rfl rfl rfl (by exact (cellsR_part0 (R := rwRun) hx (by exact Nat.le_of_ble_eq_true rfl))) (by exact rfl))) (by simp only [List.drop_zero, List.drop_succ_cons, List.take_succ_cons, List.take_zero, rwRun]; exact rfl) ?_
      refine WD.p (tb := tb) rfl rfl rfl rfl rfl ?_
      refine WD.p (tb := tb) rfl rfl rfl rfl rfl ?_
      refine WD.pP (tb := tb) rfl rfl rfl rfl (evP_index rfl rfl rfl rfl rfl rfl (by omega)) (by simp only [Nat.zero_add, Nat.add_zero, Nat.reduceAdd, Nat.reduceMul, Nat.add_assoc, Nat.mul_one]; exact rfl) ?_
      refine WD.rA (tb := tb) rfl rfl rfl rfl (evQ_R rfl (evR_loads rfl rfl rfl rfl rfl (by exact (cellsR_part0 (R := rwRun) hx (by exact Nat.le_of_ble_eq_true rfl))) (by exact rfl))) (by simp only [List.drop_zero, List.drop_succ_cons, List.take_succ_cons, List.take_zero, rwRun]; exact rfl) ?_
      refine WD.pB (tb := tb) false rfl rfl rfl rfl (evP_neq rfl rfl rfl (by kernel_rfl) (by kernel_rfl)) (by rw [Pie_eq]; exact nd_f (by omega)) ?_
      refine WD.fin rfl ?_
      refine WS.pcondF rfl rfl ?_
      refine WS.pskip rfl ?_
      refine WS.pregion rfl ?_
      refine WS.po (tb := tb) rfl rfl rfl rfl rfl ?_
      refine WS.poW (tb := tb) rfl rfl rfl rfl rfl (by simp only [lo]; omega) (by simp only [Am.hi]; omega) ?_
      refine WS.po (tb := tb) rfl rfl rfl rfl rfl ?_
      refine WS.pend rfl ?_
      refine WS.nil ?_
      exact ⟨i + 1, by omega, by omega, (SeenBy.seen (v := [0,1]) ⟨rfl, rfl, (by simp [viewP, okL, okV, mapL, mapV, mem_get, mapL_cellsR, okL_cellsR]), (by first | exact rfl | exact own2_dist rfl rfl), (by simp only [slotsP, okV, okL, mapV, mapL, and_true, true_and, List.length_cons, List.length_nil, List.length_append, List.length_map, Nat.reduceAdd, Nat.reduceLT]; repeat' (first | exact rfl | refine ⟨?_, ?_⟩ | exact lk_m rfl (hmp _ rfl) | exact hok _ (Nat.le_of_ble_eq_true rfl) | exact lk_i rfl (by omega) | exact lk_sl rfl (by omega) (by omega) (by omega) | decide | omega))⟩)⟩
    · refine WS.pseq rfl ?_
      refine WS.pseq rfl ?_
      refine WS.pregion rfl ?_
      refine WS.po (tb := tb) rfl rfl rfl rfl rfl ?_
      refine WS.po (tb := tb) rfl rfl rfl rfl rfl ?_
      refine WS.po (tb := tb) rfl rfl rfl rfl rfl ?_
      refine WS.poDF (tb := tb) rfl rfl rfl rfl rfl (by omega) ?_
      refine WS.pend rfl ?_
      refine WS.pcondF rfl rfl ?_
      refine WS.pout rfl rfl ?_
      exact ⟨rfl, (), trivial, (SeenBy.seen (v := [0,1]) ⟨rfl, rfl, (by simp [viewP, okL, okV, mapL, mapV, mem_get, mapL_cellsR, okL_cellsR]), (by first | exact rfl | exact own2_dist rfl rfl), (by simp only [slotsP, okV, okL, mapV, mapL, and_true, true_and, List.length_cons, List.length_nil, List.length_append, List.length_map, Nat.reduceAdd, Nat.reduceLT]; repeat' (first | exact rfl | refine ⟨?_, ?_⟩ | exact lk_m rfl (hmp _ rfl) | exact hok _ (Nat.le_of_ble_eq_true rfl) | exact lk_i rfl (by omega) | exact lk_sl rfl (by omega) (by omega) (by omega) | decide | omega))⟩)⟩
  · rintro _ -
    refine WS.pseq rfl ?_
    refine WS.pregion rfl ?_
    refine WS.po (tb := tb) rfl rfl rfl rfl rfl ?_
    refine WS.pend rfl ?_
    refine WS.pret rfl ⟨.inr rfl, _, rfl, ?_⟩
    exact ⟨_, rfl, rfl, rfl⟩
end Go.Proofs.Ythhmapgolnkjcaa.Am

