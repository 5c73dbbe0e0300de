/- A row of one number many times, walked. Conditions: those of each theorem. -/
import Derived.WalkSmall
import Derived.Test.YthhmapgolnkjcaaFl1
namespace Go.Proofs.Ythhmapgolnkjcaa.Am
open Go.Proofs
set_option maxRecDepth 1000000
set_option maxHeartbeats 4000000
set_option linter.unusedSimpArgs false
set_option linter.unusedVariables false
theorem and32 (y : Int) (h0 : 0 ≤ y) (h1 : y ≤ 4294967295) : bits .and .u64 y 4294967295 = y := by
  obtain ⟨n, rfl⟩ : ∃ n : Nat, y = n := ⟨y.toNat, by omega⟩
  have hn : n &&& 4294967295 = n := by
    have := Nat.and_two_pow_sub_one_eq_mod n 32
    rw [show (2 ^ 32 - 1 : Nat) = 4294967295 from rfl] at this
    rw [this, Nat.mod_eq_of_lt (by omega)]
  have h := bits_and_u64_nat n 4294967295 (by omega) (by omega)
  rw [hn] at h
  exact h
theorem fdiv32 (y : Int) (h0 : 0 ≤ y) (h1 : y ≤ 4294967295) : y.fdiv 4294967296 = 0 := by
  rw [Int.fdiv_eq_ediv_of_nonneg _ (by omega)]; omega
theorem wrs (y : Int) (h0 : 0 ≤ y) (h1 : y ≤ 4294967295) : wr .u64 y = y := wr_id (by simp only [lo]; omega) (by simp only [hi]; omega)
theorem mul64_walk (y : Int) (h0 : 0 ≤ y) (h1 : y ≤ 1000000) : FM Try.prog 62 [.i .u64 1, .i .u64 y] [] (fun v M' => v = .tup [.i .u64 0, .i .u64 y] ∧ M' = []) := by
  refine FM.pbody (tb := tb) (fn := Try.f62) rfl rfl ?_
  simp only [argS, Nat.reduceAdd, List.length_cons, List.length_nil]
  refine WS.pseq rfl ?_
  refine WS.pregion rfl ?_
  refine WS.po (tb := tb) rfl rfl rfl rfl rfl ?_
  refine WS.po (tb := tb) rfl rfl rfl rfl rfl ?_
  refine WS.pend rfl ?_
  refine WS.pseq rfl ?_
  refine WS.pregion rfl ?_
  refine WS.po (tb := tb) rfl rfl rfl rfl rfl ?_
  refine WS.po (tb := tb) rfl rfl rfl rfl rfl ?_
  refine WS.po (tb := tb) rfl rfl rfl rfl rfl ?_
  refine WS.pend rfl ?_
  refine WS.pseq rfl ?_
  refine WS.pregion rfl ?_
  refine WS.po (tb := tb) rfl rfl rfl rfl rfl ?_
  refine WS.po (tb := tb) rfl rfl rfl rfl rfl ?_
  refine WS.po (tb := tb) rfl rfl rfl rfl rfl ?_
  refine WS.pend rfl ?_
  refine WS.pseq rfl ?_
  refine WS.pregion rfl ?_
  refine WS.po (tb := tb) rfl rfl rfl rfl rfl ?_
  refine WS.po (tb := tb) rfl rfl rfl rfl rfl ?_
  refine WS.po (tb := tb) rfl rfl rfl rfl rfl ?_
  refine WS.pend rfl ?_
  refine WS.pseq rfl ?_
  refine WS.pregion rfl ?_
  refine WS.po (tb := tb) rfl rfl rfl rfl rfl ?_
  refine WS.po (tb := tb) rfl rfl rfl rfl rfl ?_
  refine WS.po (tb := tb) rfl rfl rfl rfl rfl ?_
  refine WS.pend rfl ?_
  refine WS.pseq rfl ?_
  refine WS.pregion rfl ?_
  refine WS.po (tb := tb) rfl rfl rfl rfl rfl ?_
  refine WS.po (tb := tb) rfl rfl rfl rfl rfl ?_
  refine WS.po (tb := tb) rfl rfl rfl rfl rfl ?_
  refine WS.po (tb := tb) rfl rfl rfl rfl rfl ?_
  refine WS.pend rfl ?_
  refine WS.pseq rfl ?_
  refine WS.pregion rfl ?_
  refine WS.po (tb := tb) rfl rfl rfl rfl rfl ?_
  refine WS.po (tb := tb) rfl rfl rfl rfl rfl ?_
  refine WS.po (tb := tb) rfl rfl rfl rfl rfl ?_
  refine WS.po (tb := tb) rfl rfl rfl rfl rfl ?_
  refine WS.po (tb := tb) rfl rfl rfl rfl rfl ?_
  refine WS.po (tb := tb) rfl rfl rfl rfl rfl ?_
  refine WS.po (tb := tb) rfl rfl rfl rfl rfl ?_
  refine WS.pend rfl ?_
  refine WS.pseq rfl ?_
  refine WS.pregion rfl ?_
  refine WS.po (tb := tb) rfl rfl rfl rfl rfl ?_
  refine WS.po (tb := tb) rfl rfl rfl rfl rfl ?_
  refine WS.po (tb := tb) rfl rfl rfl rfl rfl ?_
  refine WS.pend rfl ?_
  refine WS.pseq rfl ?_
  refine WS.pregion rfl ?_
  refine WS.po (tb := tb) rfl rfl rfl rfl rfl ?_
  refine WS.po (tb := tb) rfl rfl rfl rfl rfl ?_
  refine WS.po (tb := tb) rfl rfl rfl rfl rfl ?_
  refine WS.pend rfl ?_
  refine WS.pseq rfl ?_
  refine WS.pregion rfl ?_
  refine WS.po (tb := tb) rfl rfl rfl rfl rfl ?_
  refine WS.po (tb := tb) rfl rfl rfl rfl rfl ?_
  refine WS.po (tb := tb) rfl rfl rfl rfl rfl ?_
  refine WS.po (tb := tb) rfl rfl rfl rfl rfl ?_
  refine WS.po (tb := tb) rfl rfl rfl rfl rfl ?_
  refine WS.po (tb := tb) rfl rfl rfl rfl rfl ?_
  refine WS.pend rfl ?_
  refine WS.pseq rfl ?_
  refine WS.pregion rfl ?_
  refine WS.po (tb := tb) rfl rfl rfl rfl rfl ?_
  refine WS.po (tb := tb) rfl rfl rfl rfl rfl ?_
  refine WS.po (tb := tb) rfl rfl rfl rfl rfl ?_
  refine WS.po (tb := tb) rfl rfl rfl rfl rfl ?_
  refine WS.po (tb := tb) rfl rfl rfl rfl rfl ?_
  refine WS.po (tb := tb) rfl rfl rfl rfl rfl ?_
  refine WS.po (tb := tb) rfl rfl rfl rfl rfl ?_
  refine WS.po (tb := tb) rfl rfl rfl rfl rfl ?_
  refine WS.po (tb := tb) rfl rfl rfl rfl rfl ?_
  refine WS.pend rfl ?_
  refine WS.pseq rfl ?_
  refine WS.pregion rfl ?_
  refine WS.po (tb := tb) rfl rfl rfl rfl rfl ?_
  refine WS.po (tb := tb) rfl rfl rfl rfl rfl ?_
  refine WS.poW (tb := tb) rfl rfl rfl rfl rfl (by simp only [lo]; omega) (by simp only [Am.hi]; omega) ?_
  refine WS.po (tb := tb) rfl rfl rfl rfl rfl ?_
  refine WS.pend rfl ?_
  refine WS.pret rfl ⟨.inr rfl, _, rfl, ?_⟩
  refine ⟨_, rfl, ?_, rfl⟩
  have e1 : pow2 (min (Int.toNat 32) IntKind.u64.bits) = 4294967296 := rfl
  have e2 : bits .and .u64 1 4294967295 = 1 := and32 1 (by omega) (by omega)
  have e3 : Int.fdiv 1 4294967296 = 0 := rfl
  rw [e1, e2, e3, and32 y h0 (by omega), fdiv32 y h0 (by omega)]
  simp only [Int.zero_mul, Int.one_mul, Int.mul_zero, Int.add_zero, Int.zero_add]
  rw [wrs y h0 (by omega), fdiv32 y h0 (by omega), wrs 0 (by omega) (by omega)]
  exact congrArg (fun x => V.tup [V.i IntKind.u64 x, V.i IntKind.u64 y]) (by kernel_rfl)
theorem mul_walk (y : Int) (h0 : 0 ≤ y) (h1 : y ≤ 1000000) : FM Try.prog 54 [.i .u64 1, .i .u64 y] [] (fun v M' => v = .tup [.i .u64 0, .i .u64 y] ∧ M' = []) := by
  refine FM.pbody (tb := tb) (fn := Try.f54) rfl rfl ?_
  simp only [argS, Nat.reduceAdd, List.length_cons, List.length_nil]
  refine WS.pseq rfl ?_
  refine WS.pregion rfl ?_
  refine WS.po (tb := tb) rfl rfl rfl rfl rfl ?_
  refine WS.po (tb := tb) rfl rfl rfl rfl rfl ?_
  refine WS.pend rfl ?_
  refine WS.pseq rfl ?_
  refine WS.pcondF rfl rfl ?_
  refine WS.pskip rfl ?_
  refine WS.pseq rfl ?_
  refine WS.pregion rfl ?_
  refine WS.po (tb := tb) rfl rfl rfl rfl rfl ?_
  refine WS.po (tb := tb) rfl rfl rfl rfl rfl ?_
  refine WS.pcallM (tb := tb) [] (mul64_walk y h0 h1) rfl rfl rfl rfl rfl (by (try simp only [mapL, mapV, List.getD_cons_zero, List.getD_cons_succ]); exact rfl) (by simp [okL, okV]) rfl (by simp [embP, okL, okV, mapL, mapV, mem_next, mem_get, mem_ro, mapL_cellsR, okL_cellsR]) rfl ?_; rintro _ _ ⟨rfl, rfl⟩ -; simp only [plugL, setsL, newsL, isOwn, ownB, over, mapL, mapV, List.getD_cons_zero, List.getD_cons_succ, List.set_cons_zero, List.set_cons_succ, List.length_cons, List.length_nil, Nat.reduceAdd, Nat.reduceLT, Nat.zero_add, if_true, if_false, Nat.reduceSub, reduceIte, List.map_cons, List.map_nil, List.append_nil, List.cons_append, List.nil_append, mapL_cellsR, Nat.lt_irrefl, Nat.not_lt_zero, Nat.zero_lt_succ, Nat.lt_add_one]
  refine WS.po (tb := tb) rfl rfl rfl rfl rfl ?_
  refine WS.po (tb := tb) rfl rfl rfl rfl rfl ?_
  refine WS.po (tb := tb) rfl rfl rfl rfl rfl ?_
  refine WS.po (tb := tb) rfl rfl rfl rfl rfl ?_
  refine WS.po (tb := tb) rfl rfl rfl rfl rfl ?_
  refine WS.pend rfl ?_
  refine WS.pseq rfl ?_
  refine WS.pregion rfl ?_
  refine WS.po (tb := tb) rfl rfl rfl rfl rfl ?_
  refine WS.po (tb := tb) rfl rfl rfl rfl rfl ?_
  refine WS.po (tb := tb) rfl rfl rfl rfl rfl ?_
  refine WS.po (tb := tb) rfl rfl rfl rfl rfl ?_
  refine WS.pend rfl ?_
  refine WS.pret rfl ⟨.inr rfl, _, rfl, ?_⟩
  exact ⟨_, rfl, rfl, rfl⟩
def half (n k : Nat) : List Int := mkl n (fun j => if j < k then -1 else 0)
theorem half_step {n k m : Nat} (h : k + m ≤ n) (hm : m ≤ k) : over2 (half n k) k ((half n k).take m) = half n (k + m) := by
  refine mkl_is (by simp [over2, half, mkl_len]; omega) fun j hj => ?_
  have hg : ∀ i, i < n → (half n k)[i]? = some (if i < k then -1 else 0) := fun i hi => mkl_get hi
  unfold over2
  rcases Nat.lt_or_ge j k with h1 | h1
  · rw [List.append_assoc, List.getElem?_append_left (by simp [half, mkl_len]; omega), List.getElem?_take, if_pos h1, hg j hj, if_pos h1, if_pos (by omega)]
  · rw [List.append_assoc, List.getElem?_append_right (by simp [half, mkl_len]; omega)]
    have hl : ((half n k).take k).length = k := by simp [half, mkl_len]; omega
    rw [hl]
    rcases Nat.lt_or_ge (j - k) m with h2 | h2
    · rw [List.getElem?_append_left (by simp [half, mkl_len]; omega), List.getElem?_take, if_pos h2, hg _ (by omega), if_pos (by omega), if_pos (by omega)]
    · have hl2 : ((half n k).take m).length = m := by simp [half, mkl_len]; omega
      rw [List.getElem?_append_right (by rw [hl2]; omega), hl2, List.getElem?_drop, show k + m + (j - k - m) = j by omega, hg j hj, if_neg (by omega), if_neg (by omega)]
theorem repeat_walk (n : Nat) (h0 : 1 ≤ n) (h1 : n ≤ 512) : FM Try.prog 31 [.sl (some (0,0)) 1 1 false, .i .i64 n] [some ⟨[.i .i64 (-1)], 3, true⟩] (fun v M' => v = .sl (some (1,0)) n n false ∧ M' = [some ⟨[.i .i64 (-1)], 3, true⟩, some ⟨cellsR (rwI .i64) (List.replicate n (-1)), 3, true⟩]) := by
  refine FM.pbody (tb := tb) (fn := Try.f31) rfl rfl ?_
  simp only [argS, Nat.reduceAdd, List.length_cons, List.length_nil]
  have e0 : setL (cellsR (rwI .i64) (List.replicate n 0)) 0 [.i .i64 (-1)] = cellsR (rwI .i64) (half n 1) := (cellsI_set (by simp; omega)).trans (congrArg _ (by
    rw [replicate_mkl]; exact mkl_set rfl fun j _ hj => by rw [if_neg (by omega)]))
  refine WS.pseq rfl ?_
  refine WS.pregion rfl ?_
  refine WS.po (tb := tb) rfl rfl rfl rfl rfl ?_
  refine WS.pend rfl ?_
  refine WS.pseq rfl ?_
  refine WS.pseq rfl ?_
  refine WS.pregion rfl ?_
  refine WS.po (tb := tb) rfl rfl rfl rfl rfl ?_
  refine WS.poB (tb := tb) false rfl rfl rfl rfl rfl rfl ?_
  refine WS.pend rfl ?_
  refine WS.pcondF rfl rfl ?_
  refine WS.pskip rfl ?_
  refine WS.pseq rfl ?_
  refine WS.pregion rfl ?_
  refine WS.po (tb := tb) rfl rfl rfl rfl rfl ?_
  refine WS.po (tb := tb) rfl rfl rfl rfl rfl ?_
  refine WS.poW (tb := tb) rfl rfl rfl rfl rfl (by simp only [lo]; omega) (by simp only [Am.hi]; omega) ?_
  refine WS.po (tb := tb) rfl rfl rfl rfl rfl ?_
  refine WS.poW (tb := tb) rfl rfl rfl rfl rfl (by simp only [lo]; omega) (by simp only [Am.hi]; omega) ?_
  refine WS.pcallM (tb := tb) [] (mul_walk n (by omega) (by omega)) rfl rfl rfl rfl rfl (by (try simp only [mapL, mapV, List.getD_cons_zero, List.getD_cons_succ]); exact rfl) (by simp [okL, okV]) rfl (by simp [embP, okL, okV, mapL, mapV, mem_next, mem_get, mem_ro, mapL_cellsR, okL_cellsR]) rfl ?_; rintro _ _ ⟨rfl, rfl⟩ -; simp only [plugL, setsL, newsL, isOwn, ownB, over, mapL, mapV, List.getD_cons_zero, List.getD_cons_succ, List.set_cons_zero, List.set_cons_succ, List.length_cons, List.length_nil, Nat.reduceAdd, Nat.reduceLT, Nat.zero_add, if_true, if_false, Nat.reduceSub, reduceIte, List.map_cons, List.map_nil, List.append_nil, List.cons_append, List.nil_append, mapL_cellsR, Nat.lt_irrefl, Nat.not_lt_zero, Nat.zero_lt_succ, Nat.lt_add_one]
  refine WS.po (tb := tb) rfl rfl rfl rfl rfl ?_
  refine WS.po (tb := tb) rfl rfl rfl rfl rfl ?_
  refine WS.po (tb := tb) rfl rfl rfl rfl rfl ?_
  refine WS.po (tb := tb) rfl rfl rfl rfl rfl ?_
  refine WS.po (tb := tb) rfl rfl rfl rfl rfl ?_
  refine WS.pend rfl ?_
  refine WS.pseq rfl ?_
  refine WS.pseq rfl ?_
  refine WS.pregion rfl ?_
  refine WS.po (tb := tb) rfl rfl rfl rfl rfl ?_
  refine WS.poB (tb := tb) false rfl rfl rfl rfl rfl rfl ?_
  refine WS.po (tb := tb) rfl rfl rfl rfl rfl ?_
  refine WS.po (tb := tb) rfl rfl rfl rfl rfl ?_
  refine WS.poDF (tb := tb) rfl rfl rfl rfl rfl (by omega) ?_
  refine WS.po (tb := tb) rfl rfl rfl rfl rfl ?_
  refine WS.pend rfl ?_
  refine WS.pcondF rfl rfl ?_
  refine WS.pskip rfl ?_
  refine WS.pseq rfl ?_
  refine WS.pregion rfl ?_
  refine WS.po (tb := tb) rfl rfl rfl rfl rfl ?_
  refine WS.poW (tb := tb) rfl rfl rfl rfl rfl (by simp only [lo]; omega) (by simp only [Am.hi]; omega) ?_
  refine WS.po (tb := tb) rfl rfl rfl rfl (step_H rfl rfl (evH_make (m := n) (n := n) rfl rfl rfl rfl rfl rfl rfl rfl (by omega) (by omega) (by omega) (Nat.le_refl _) (by omega) (by omega))) ?_; (try rw [upd_mem _ rfl]); (try rw [new_mem]); (try simp only [List.set_cons_zero, List.set_cons_succ, List.cons_append, List.nil_append, mem_next, List.length_cons, List.length_nil, Nat.zero_add, Nat.reduceAdd, List.drop_zero, vcells, cellsI_app1, cellsB_app1, cellsI_cons, repsI, repsB, Run_app1, Run_reps, e0, repsI])
  refine WS.po (tb := tb) rfl rfl rfl rfl rfl ?_
  refine WS.pend rfl ?_
  refine WS.pseq rfl ?_
  refine WS.pregion rfl ?_
  refine WS.po (tb := tb) rfl rfl rfl rfl rfl ?_
  refine WS.po (tb := tb) rfl rfl rfl rfl rfl ?_
  refine WS.po (tb := tb) rfl rfl rfl rfl (step_H rfl rfl (evH_copyR rfl rfl rfl rfl rfl (by first | exact Nat.min_eq_left (by omega) | exact Nat.min_eq_right (by omega)) (by omega) (by omega) (cellsAt_all rfl rfl) rfl (Nat.zero_le _) (by first | rfl | exact allI _ _) (by first | exact rfl | (simp only [Run_len, vcells, List.length_cons, List.length_nil, cellsI_len, cellsB_len, List.length_set, List.length_replicate, List.length_append, List.length_map, List.length_take, List.length_drop]; omega) | omega) (by first | exact rfl | (simp only [Run_len, vcells, List.length_cons, List.length_nil, cellsI_len, cellsB_len, List.length_set, List.length_replicate, List.length_append, List.length_map, List.length_take, List.length_drop]; omega) | omega))) ?_; rw [upd_mem _ rfl]; simp only [vcells, List.set_cons_zero, List.set_cons_succ, e0, repsI]; (try simp only [setL, List.set_cons_zero, List.set_cons_succ])
  refine WS.po (tb := tb) rfl rfl rfl rfl rfl ?_
  refine WS.pend rfl ?_
  refine WS.pseq rfl ?_
  refine WS.pblock rfl ?_
  refine WS.ploopI (σ := Nat) (τ := Unit) (fun k => [(7, .sl (some (1,0)) n n false), (8, .i .i64 k)]) (fun k => [some ⟨[.i .i64 (-1)], 3, true⟩, some ⟨cellsR (rwI .i64) (half n k), 3, true⟩]) (fun k => 1 ≤ k ∧ k ≤ n) (fun k => n - k)
    (fun _ => [(7, .sl (some (1,0)) n n false)]) (fun _ => [some ⟨[.i .i64 (-1)], 3, true⟩, some ⟨cellsR (rwI .i64) (half n n), 3, true⟩]) (fun _ => True) 0 [0,1] 1 rfl ⟨Nat.le_refl _, h0⟩ ⟨rfl, rfl, (by simp [viewP, okL, okV, mapL, mapV, mem_get, mapL_cellsR, okL_cellsR]), (by first | exact rfl | exact own2_dist rfl rfl), (by simp only [slotsP, okV, okL, mapV, mapL, and_true, true_and, List.length_cons, List.length_nil, List.length_append, List.length_map, Nat.reduceAdd, Nat.reduceLT]; repeat' (first | exact rfl | refine ⟨?_, ?_⟩ | exact lk_m rfl (hmp _ rfl) | exact hok _ (Nat.le_of_ble_eq_true rfl) | exact lk_i rfl (by omega) | exact lk_sl rfl (by omega) (by omega) (by omega) | decide | omega))⟩ rfl ?_ ?_
  · rintro k ⟨hk1, hk2⟩
    have hlen : (half n k).length = n := by simp [half, mkl_len]
    by_cases h : k < n
    · by_cases h2 : k ≤ n - k
      · have e1 : setL (cellsR (rwI .i64) (half n k)) k (cellsR (rwI .i64) ((half n k).take k)) = cellsR (rwI .i64) (half n (k + k)) := (cellsI_over (by simp [hlen]; omega)).trans (congrArg _ (half_step (by omega) (Nat.le_refl _)))
        refine WS.pseq rfl ?_
        refine WS.pseq rfl ?_
        refine WS.pregion rfl ?_
        refine WS.po (tb := tb) rfl rfl rfl rfl rfl ?_
        refine WS.po (tb := tb) rfl rfl rfl rfl rfl ?_
        refine WS.po (tb := tb) rfl rfl rfl rfl rfl ?_
        refine WS.poDT (tb := tb) rfl rfl rfl rfl rfl (by omega) ?_
        refine WS.pend rfl ?_
        refine WS.pcondT rfl rfl ?_
        refine WS.pskip rfl ?_
        refine WS.pblock rfl ?_
        refine WS.pdraw (tb := tb) (by kernel_rfl) rfl (by kernel_rfl) (by kernel_rfl) ?_
        refine WD.p (tb := tb) rfl rfl rfl rfl rfl ?_
        refine WD.p (tb := tb) rfl rfl rfl rfl rfl ?_
        refine WD.p (tb := tb) rfl rfl rfl rfl rfl ?_
        refine WD.pV (tb := tb) rfl rfl rfl rfl (evP_sliceC rfl rfl rfl rfl rfl rfl (by first | exact .inl ⟨rfl, rfl⟩ | exact .inr ⟨_, _, rfl, rfl⟩ | exact .inr ⟨_, _, rfl, (Int.toNat_of_nonneg (by omega)).symm⟩) (by first | exact .inl ⟨rfl, rfl⟩ | exact .inr ⟨_, _, rfl, rfl⟩ | exact .inr ⟨_, _, rfl, (Int.toNat_of_nonneg (by omega)).symm⟩) (by omega) (by omega) (by omega)) (by simp only [Int.toNat_natCast, Int.toNat_one, Int.toNat_zero, Int.reduceToNat, Nat.zero_mul, Nat.one_mul, Nat.sub_zero, Nat.add_sub_cancel, List.getElem_toArray, List.getElem_cons_zero, List.getElem_cons_succ, Nat.zero_add, Nat.add_zero, Nat.reduceAdd, Nat.reduceMul, Nat.add_assoc, Nat.mul_one, Int.toNat_natCast, Int.reduceToNat, Int.toNat_zero, Nat.zero_mul]; exact rfl) ?_
        refine WD.p (tb := tb) rfl rfl rfl rfl rfl ?_
        refine WD.p (tb := tb) rfl rfl rfl rfl rfl ?_
        refine WD.pV (tb := tb) rfl rfl rfl rfl (evP_sliceC rfl rfl rfl rfl rfl rfl (by first | exact .inl ⟨rfl, rfl⟩ | exact .inr ⟨_, _, rfl, rfl⟩ | exact .inr ⟨_, _, rfl, (Int.toNat_of_nonneg (by omega)).symm⟩) (by first | exact .inl ⟨rfl, rfl⟩ | exact .inr ⟨_, _, rfl, rfl⟩ | exact .inr ⟨_, _, rfl, (Int.toNat_of_nonneg (by omega)).symm⟩) (by omega) (by omega) (by omega)) (by simp only [Int.toNat_natCast, Int.toNat_one, Int.toNat_zero, Int.reduceToNat, Nat.zero_mul, Nat.one_mul, Nat.sub_zero, Nat.add_sub_cancel, List.getElem_toArray, List.getElem_cons_zero, List.getElem_cons_succ, Nat.zero_add, Nat.add_zero, Nat.reduceAdd, Nat.reduceMul, Nat.add_assoc, Nat.mul_one, Int.toNat_natCast, Int.reduceToNat, Int.toNat_zero, Nat.zero_mul]; exact rfl) ?_
        refine WD.e (tb := tb) rfl rfl rfl rfl rfl (evE_H (evH_copyR rfl rfl rfl rfl rfl (by first | exact Nat.min_eq_left (by omega) | exact Nat.min_eq_right (by omega)) (by omega) (by omega) (cellsAt_rows (R := rwI .i64) (k := 0) rfl rfl (by simp) (by omega)) rfl (Nat.zero_le _) (by first | rfl | exact allI _ _) (by first | exact rfl | (simp only [Run_len, vcells, List.length_cons, List.length_nil, cellsI_len, cellsB_len, List.length_set, List.length_replicate, List.length_append, List.length_map, List.length_take, List.length_drop, hlen]; omega) | omega) (by first | exact rfl | (simp only [Run_len, vcells, List.length_cons, List.length_nil, cellsI_len, cellsB_len, List.length_set, List.length_replicate, List.length_append, List.length_map, List.length_take, List.length_drop, hlen]; omega) | omega))) ?_; rw [upd_mem _ rfl]; simp only [vcells, List.set_cons_zero, List.set_cons_succ, e1, List.drop_zero]; (try simp only [setL, List.set_cons_zero, List.set_cons_succ])
        refine WD.pW (tb := tb) rfl rfl rfl rfl rfl (by simp only [lo]; omega) (by simp only [Am.hi]; omega) ?_
        refine WD.p (tb := tb) rfl rfl rfl rfl rfl ?_
        refine WD.fin rfl ?_
        refine WS.bend ?_
        refine WS.nil ?_
        exact ⟨k + k, by omega, by omega, (SeenBy.seen (v := [0,1]) ⟨rfl, rfl, (by simp [viewP, okL, okV, mapL, mapV, mem_get, mapL_cellsR, okL_cellsR]), (by first | exact rfl | exact own2_dist rfl rfl), (by simp only [slotsP, okV, okL, mapV, mapL, and_true, true_and, List.length_cons, List.length_nil, List.length_append, List.length_map, Nat.reduceAdd, Nat.reduceLT]; repeat' (first | exact rfl | refine ⟨?_, ?_⟩ | exact lk_m rfl (hmp _ rfl) | exact hok _ (Nat.le_of_ble_eq_true rfl) | exact lk_i rfl (by omega) | exact lk_sl rfl (by omega) (by omega) (by omega) | decide | omega))⟩)⟩
      · have e1 : setL (cellsR (rwI .i64) (half n k)) k (cellsR (rwI .i64) ((half n k).take (n - k))) = cellsR (rwI .i64) (half n (k + (n - k))) := (cellsI_over (by simp [hlen]; omega)).trans (congrArg _ (half_step (by omega) (by omega)))
        refine WS.pseq rfl ?_
        refine WS.pseq rfl ?_
        refine WS.pregion rfl ?_
        refine WS.po (tb := tb) rfl rfl rfl rfl rfl ?_
        refine WS.po (tb := tb) rfl rfl rfl rfl rfl ?_
        refine WS.po (tb := tb) rfl rfl rfl rfl rfl ?_
        refine WS.poDT (tb := tb) rfl rfl rfl rfl rfl (by omega) ?_
        refine WS.pend rfl ?_
        refine WS.pcondT rfl rfl ?_
        refine WS.pskip rfl ?_
        refine WS.pblock rfl ?_
        refine WS.pdraw (tb := tb) (by kernel_rfl) rfl (by kernel_rfl) (by kernel_rfl) ?_
        refine WD.p (tb := tb) rfl rfl rfl rfl rfl ?_
        refine WD.p (tb := tb) rfl rfl rfl rfl rfl ?_
        refine WD.p (tb := tb) rfl rfl rfl rfl rfl ?_
        refine WD.pV (tb := tb) rfl rfl rfl rfl (evP_sliceC rfl rfl rfl rfl rfl rfl (by first | exact .inl ⟨rfl, rfl⟩ | exact .inr ⟨_, _, rfl, rfl⟩ | exact .inr ⟨_, _, rfl, (Int.toNat_of_nonneg (by omega)).symm⟩) (by first | exact .inl ⟨rfl, rfl⟩ | exact .inr ⟨_, _, rfl, rfl⟩ | exact .inr ⟨_, _, rfl, (Int.toNat_of_nonneg (by omega)).symm⟩) (by omega) (by omega) (by omega)) (by simp only [Int.toNat_natCast, Int.toNat_one, Int.toNat_zero, Int.reduceToNat, Nat.zero_mul, Nat.one_mul, Nat.sub_zero, Nat.add_sub_cancel, List.getElem_toArray, List.getElem_cons_zero, List.getElem_cons_succ, Nat.zero_add, Nat.add_zero, Nat.reduceAdd, Nat.reduceMul, Nat.add_assoc, Nat.mul_one, Int.toNat_natCast, Int.reduceToNat, Int.toNat_zero, Nat.zero_mul]; exact rfl) ?_
        refine WD.p (tb := tb) rfl rfl rfl rfl rfl ?_
        refine WD.p (tb := tb) rfl rfl rfl rfl rfl ?_
        refine WD.pV (tb := tb) rfl rfl rfl rfl (evP_sliceC rfl rfl rfl rfl rfl rfl (by first | exact .inl ⟨rfl, rfl⟩ | exact .inr ⟨_, _, rfl, rfl⟩ | exact .inr ⟨_, _, rfl, (Int.toNat_of_nonneg (by omega)).symm⟩) (by first | exact .inl ⟨rfl, rfl⟩ | exact .inr ⟨_, _, rfl, rfl⟩ | exact .inr ⟨_, _, rfl, (Int.toNat_of_nonneg (by omega)).symm⟩) (by omega) (by omega) (by omega)) (by simp only [Int.toNat_natCast, Int.toNat_one, Int.toNat_zero, Int.reduceToNat, Nat.zero_mul, Nat.one_mul, Nat.sub_zero, Nat.add_sub_cancel, List.getElem_toArray, List.getElem_cons_zero, List.getElem_cons_succ, Nat.zero_add, Nat.add_zero, Nat.reduceAdd, Nat.reduceMul, Nat.add_assoc, Nat.mul_one, Int.toNat_natCast, Int.reduceToNat, Int.toNat_zero, Nat.zero_mul]; exact rfl) ?_
        refine WD.e (tb := tb) rfl rfl rfl rfl rfl (evE_H (evH_copyR rfl rfl rfl rfl rfl (by first | exact Nat.min_eq_left (by omega) | exact Nat.min_eq_right (by omega)) (by omega) (by omega) (cellsAt_rows (R := rwI .i64) (k := 0) rfl rfl (by simp) (by omega)) rfl (Nat.zero_le _) (by first | rfl | exact allI _ _) (by first | exact rfl | (simp only [Run_len, vcells, List.length_cons, List.length_nil, cellsI_len, cellsB_len, List.length_set, List.length_replicate, List.length_append, List.length_map, List.length_take, List.length_drop, hlen]; omega) | omega) (by first | exact rfl | (simp only [Run_len, vcells, List.length_cons, List.length_nil, cellsI_len, cellsB_len, List.length_set, List.length_replicate, List.length_append, List.length_map, List.length_take, List.length_drop, hlen]; omega) | omega))) ?_; rw [upd_mem _ rfl]; simp only [vcells, List.set_cons_zero, List.set_cons_succ, e1, List.drop_zero]; (try simp only [setL, List.set_cons_zero, List.set_cons_succ])
        refine WD.pW (tb := tb) rfl rfl rfl rfl rfl (by simp only [lo]; omega) (by simp only [Am.hi]; omega) ?_
        refine WD.p (tb := tb) rfl rfl rfl rfl rfl ?_
        refine WD.fin rfl ?_
        refine WS.bend ?_
        refine WS.nil ?_
        exact ⟨k + (n - k), by omega, by omega, (SeenBy.seen (v := [0,1]) ⟨rfl, rfl, (by simp [viewP, okL, okV, mapL, mapV, mem_get, mapL_cellsR, okL_cellsR]), (by first | exact rfl | exact own2_dist rfl rfl), (by simp only [slotsP, okV, okL, mapV, mapL, and_true, true_and, List.length_cons, List.length_nil, List.length_append, List.length_map, Nat.reduceAdd, Nat.reduceLT]; repeat' (first | exact rfl | refine ⟨?_, ?_⟩ | exact lk_m rfl (hmp _ rfl) | exact hok _ (Nat.le_of_ble_eq_true rfl) | exact lk_i rfl (by omega) | exact lk_sl rfl (by omega) (by omega) (by omega) | decide | omega))⟩)⟩
    · obtain rfl : k = n := by omega
      refine WS.pseq rfl ?_
      refine WS.pseq rfl ?_
      refine WS.pregion rfl ?_
      refine WS.po (tb := tb) rfl rfl rfl rfl rfl ?_
      refine WS.po (tb := tb) rfl rfl rfl rfl rfl ?_
      refine WS.po (tb := tb) rfl rfl rfl rfl rfl ?_
      refine WS.poDF (tb := tb) rfl rfl rfl rfl rfl (by omega) ?_
      refine WS.pend rfl ?_
      refine WS.pcondF rfl rfl ?_
      refine WS.pout rfl rfl ?_
      exact ⟨rfl, (), trivial, (SeenBy.seen (v := [0,1]) ⟨rfl, rfl, (by simp [viewP, okL, okV, mapL, mapV, mem_get, mapL_cellsR, okL_cellsR]), (by first | exact rfl | exact own2_dist rfl rfl), (by simp only [slotsP, okV, okL, mapV, mapL, and_true, true_and, List.length_cons, List.length_nil, List.length_append, List.length_map, Nat.reduceAdd, Nat.reduceLT]; repeat' (first | exact rfl | refine ⟨?_, ?_⟩ | exact lk_m rfl (hmp _ rfl) | exact hok _ (Nat.le_of_ble_eq_true rfl) | exact lk_i rfl (by omega) | exact lk_sl rfl (by omega) (by omega) (by omega) | decide | omega))⟩)⟩
  · rintro _ -
    have e2 : half n n = List.replicate n (-1) := by rw [replicate_mkl]; exact mkl_ext fun j hj => by rw [if_pos hj]
    rw [e2]
    refine WS.pseq rfl ?_
    refine WS.pregion rfl ?_
    refine WS.po (tb := tb) rfl rfl rfl rfl rfl ?_
    refine WS.po (tb := tb) rfl rfl rfl rfl rfl ?_
    refine WS.pend rfl ?_
    refine WS.pret rfl ⟨.inr rfl, _, rfl, ?_⟩
    exact ⟨_, rfl, rfl, rfl⟩
end Go.Proofs.Ythhmapgolnkjcaa.Am

