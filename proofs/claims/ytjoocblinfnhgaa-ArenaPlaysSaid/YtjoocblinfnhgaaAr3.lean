/- The walk of ArenaStack, its arguments in range. Conditions: those of each theorem. -/
import Derived.Test.YtjoocblinfnhgaaAm5
import Derived.Test.YtjoocblinfnhgaaAr2
namespace Go.Proofs.Ytjoocblinfnhgaa.Am
open Go.Proofs
set_option maxRecDepth 1000000
set_option maxHeartbeats 4000000
set_option linter.unusedSimpArgs false
set_option linter.unusedVariables false
theorem Node_eq (l l2 : Int) (r r2 : Int) (h h2 : Int) (a a2 : Int) (b b2 : Int) (c c2 : Int) : eqB tb 100 40 (.agg [.i .u32 l, .i .u32 r, .i .i64 h, .i .i64 a, .i .i64 b, .i .i64 c]) (.agg [.i .u32 l2, .i .u32 r2, .i .i64 h2, .i .i64 a2, .i .i64 b2, .i .i64 c2]) = decide (l = l2 ∧ r = r2 ∧ h = h2 ∧ a = a2 ∧ b = b2 ∧ c = c2) := by
  have h : eqB tb 100 40 (.agg [.i .u32 l, .i .u32 r, .i .i64 h, .i .i64 a, .i .i64 b, .i .i64 c]) (.agg [.i .u32 l2, .i .u32 r2, .i .i64 h2, .i .i64 a2, .i .i64 b2, .i .i64 c2]) = ((l == l2) && ((r == r2) && ((h == h2) && (((a == a2) && ((b == b2) && ((c == c2) && true))) && true)))) := by kernel_rfl
  rw [h]; simp [Bool.beq_eq_decide_eq]
theorem awake_fm : FM Try.prog 6 [] [] (fun v M' => v = .b true ∧ M' = []) := FM.run (tb := tb) (by kernel_rfl) 100000 (by kernel_rfl)
/-- A place of the arena at first. -/
def pl0 (size j : Nat) : Pl := ⟨false, if 1 ≤ j ∧ j < size then (j : Int) + 1 else 0, 0, 0, 0, 0, 0, 0⟩
theorem iniP_mkl (n : Nat) : iniP n n = mkl (n + 1) (pl0 n) := rfl
/-- Some are taken. -/
def pl1 (size i j : Nat) : Pl := if 1 ≤ j ∧ j ≤ i then ⟨true, 0, 0, 0, j, 0, 0, 0⟩ else pl0 size j
def fr1 (size i : Nat) : Int := if i < size then (i : Int) + 1 else 0
def pl2 (size n i j : Nat) : Pl := if 1 ≤ j ∧ j ≤ i then ⟨false, if j = 1 then fr1 size n else (j : Int) - 1, 0, 0, 0, 0, 0, 0⟩ else pl1 size n j
def pl3 (size n i j : Nat) : Pl := if i < j ∧ j ≤ n then ⟨true, 0, 0, 0, 0, 0, 0, 0⟩ else pl2 size n n j
def fr3 (size n i : Nat) : Int := if i = 0 then fr1 size n else (i : Int)


def pl1a (size i j : Nat) : Pl := if j = i + 1 then ⟨true, 0, 0, 0, 0, 0, 0, 0⟩ else pl1 size i j
theorem take1 (size i : Nat) (h : i < size) (h2 : size ≤ 200) : FM Try.prog 8 [.p (some (1,0))] (arM (mkl (size + 1) (pl1 size i)) ((i : Int) + 1) i) (fun v M' => v = .tup [.i .u32 ((i : Int) + 1), .i .i64 0] ∧ M' = arM (mkl (size + 1) (pl1a size i)) (fr1 size (i + 1)) ((i : Int) + 1)) := by
  have T := take_yes (mkl (size + 1) (pl1 size i)) (i + 1) i (pl1 size i (i + 1)) (mkl_get (by omega)) (by omega) (by rw [mkl_len]; omega) (by omega) (by omega)
  rw [mkl_set (g := pl1a size i) (by rw [pl1a, if_pos rfl]) (fun j _ hj => by rw [pl1a, if_neg hj])] at T
  have e : (pl1 size i (i + 1)).next = fr1 size (i + 1) := by
    rw [pl1, if_neg (by omega), pl0, fr1]
    by_cases h : i + 1 < size
    · simp only; rw [if_pos ⟨by omega, h⟩, if_pos h]
    · simp only; rw [if_neg (by omega), if_neg h]
  rw [e] at T
  exact T
theorem put1 (size i : Nat) (h : i < size) (h2 : size ≤ 200) (fr lv : Int) : FM Try.prog 10 [.p (some (1,0)), .i .u32 ((i : Int) + 1), .agg [.i .u32 0, .i .u32 0, .i .i64 ((i : Int) + 1), .i .i64 0, .i .i64 0, .i .i64 0]] (arM (mkl (size + 1) (pl1a size i)) fr lv) (fun v M' => v = .i .i64 0 ∧ M' = arM (mkl (size + 1) (pl1 size (i + 1))) fr lv) := by
  have T := put_yes (mkl (size + 1) (pl1a size i)) (i + 1) fr lv (pl1a size i (i + 1)) 0 0 ((i : Int) + 1) 0 0 0 (mkl_get (by omega)) (by rw [pl1a, if_pos rfl]) (by rw [mkl_len]; omega)
  rw [mkl_set (g := pl1 size (i + 1)) (by rw [pl1a, if_pos rfl, pl1, if_pos (by omega)]; rfl) (fun j _ hj => by
    rw [pl1a, if_neg hj, pl1, pl1]
    by_cases h : 1 ≤ j ∧ j ≤ i
    · rw [if_pos h, if_pos (by omega)]
    · rw [if_neg h, if_neg (by omega)])] at T
  exact T
theorem give1 (size n i : Nat) (h : i < n) (hn : n ≤ size) (h2 : size ≤ 200) : FM Try.prog 9 [.p (some (1,0)), .i .u32 ((i : Int) + 1)] (arM (mkl (size + 1) (pl2 size n i)) (fr3 size n i) ((n : Int) - i)) (fun v M' => v = .i .i64 0 ∧ M' = arM (mkl (size + 1) (pl2 size n (i + 1))) ((i : Int) + 1) ((n : Int) - i - 1)) := by
  have hl : (pl2 size n i (i + 1)).live = true := by rw [pl2, if_neg (by omega), pl1, if_pos (by omega)]
  have T := give_yes (mkl (size + 1) (pl2 size n i)) (i + 1) (fr3 size n i) ((n : Int) - i) (pl2 size n i (i + 1)) (mkl_get (by omega)) hl (by rw [mkl_len]; omega) (by omega) (by omega)
  rw [mkl_set (g := pl2 size n (i + 1)) (by
      rw [pl2, if_pos (by omega), fr3]
      by_cases h : i = 0
      · rw [if_pos h, if_pos (by omega)]
      · rw [if_neg h, if_neg (by omega)]
        congr 1; omega) (fun j _ hj => by
    rw [pl2, pl2]
    by_cases h : 1 ≤ j ∧ j ≤ i
    · rw [if_pos h, if_pos (show 1 ≤ j ∧ j ≤ i + 1 by omega)]
    · rw [if_neg h, if_neg (show ¬ (1 ≤ j ∧ j ≤ i + 1) by omega)])] at T
  exact T
theorem take3 (size n i : Nat) (h : i < n) (hn : n ≤ size) (h2 : size ≤ 200) : FM Try.prog 8 [.p (some (1,0))] (arM (mkl (size + 1) (pl3 size n (i + 1))) ((i : Int) + 1) ((n : Int) - i - 1)) (fun v M' => v = .tup [.i .u32 ((i : Int) + 1), .i .i64 0] ∧ M' = arM (mkl (size + 1) (pl3 size n i)) (fr3 size n i) ((n : Int) - i)) := by
  have T := take_yes (mkl (size + 1) (pl3 size n (i + 1))) (i + 1) ((n : Int) - i - 1) (pl3 size n (i + 1) (i + 1)) (mkl_get (by omega)) (by omega) (by rw [mkl_len]; omega) (by omega) (by omega)
  rw [mkl_set (g := pl3 size n i) (by rw [pl3, if_pos (by omega)]) (fun j _ hj => by
    rw [pl3, pl3]
    by_cases h : i + 1 < j ∧ j ≤ n
    · rw [if_pos h, if_pos (by omega)]
    · rw [if_neg h, if_neg (by omega)])] at T
  have e : (pl3 size n (i + 1) (i + 1)).next = fr3 size n i := by
    rw [pl3, if_neg (by omega), pl2, if_pos (by omega), fr3]
    simp only
    by_cases h : i = 0
    · rw [if_pos (by omega), if_pos h]
    · rw [if_neg (by omega), if_neg h]; omega
  rw [e, show (n : Int) - i - 1 + 1 = (n : Int) - i by omega] at T
  exact T
theorem get3 (size n i : Nat) (h : i < n) (hn : n ≤ size) (h2 : size ≤ 200) (fr lv : Int) : FM Try.prog 11 [.p (some (1,0)), .i .u32 ((i : Int) + 1)] (arM (mkl (size + 1) (pl3 size n i)) fr lv) (fun v M' => v = .tup [.agg [.i .u32 0, .i .u32 0, .i .i64 0, .i .i64 0, .i .i64 0, .i .i64 0], .i .i64 0] ∧ M' = arM (mkl (size + 1) (pl3 size n i)) fr lv) := by
  have e : pl3 size n i (i + 1) = ⟨true, 0, 0, 0, 0, 0, 0, 0⟩ := by rw [pl3, if_pos (by omega)]
  have T := get_yes (mkl (size + 1) (pl3 size n i)) (i + 1) fr lv (pl3 size n i (i + 1)) (mkl_get (by omega)) (by rw [e]) (by rw [mkl_len]; omega)
  rw [e] at T
  exact T
theorem stack_walk (size n : Nat) (h1 : 1 ≤ size) (h2 : size ≤ 200) (h3 : 1 ≤ n) (h4 : n ≤ size) : FM Try.prog 5 [.i .i64 size, .i .i64 n] [] (fun v _ => v = .b true) := by
  refine FM.pbody (tb := tb) (fn := Try.f5) rfl rfl ?_
  simp only [argS, Nat.reduceAdd, List.length_cons, List.length_nil]
  refine WS.pseq rfl ?_
  refine WS.pregion rfl ?_
  refine WS.po (tb := tb) rfl rfl rfl rfl rfl ?_
  refine WS.pend rfl ?_
  refine WS.pseq rfl ?_
  refine WS.pseq rfl ?_
  refine WS.pregion rfl ?_
  refine WS.pcallM (tb := tb) [] awake_fm rfl rfl rfl rfl rfl (by (try simp only [mapL, mapV, List.getD_cons_zero, List.getD_cons_succ]); exact rfl) (by simp [okL, okV, arM, iniP_len]) rfl (by simp [embP, okL, okV, mapL, mapV, mem_next, mem_get, mem_ro, mapL_cellsR, okL_cellsR, arM, iniP_len]) rfl ?_; rintro _ _ ⟨rfl, rfl⟩ -; simp only [plugL, setsL, newsL, isOwn, ownB, over, mapL, mapV, List.getD_cons_zero, List.getD_cons_succ, List.set_cons_zero, List.set_cons_succ, List.length_cons, List.length_nil, Nat.reduceAdd, Nat.reduceLT, Nat.zero_add, if_true, if_false, Nat.reduceSub, reduceIte, List.map_cons, List.map_nil, List.append_nil, List.cons_append, List.nil_append, mapL_cellsR, Nat.lt_irrefl, Nat.not_lt_zero, Nat.zero_lt_succ, Nat.lt_add_one, arM, iniP_len]
  refine WS.poB (tb := tb) false rfl rfl rfl rfl rfl rfl ?_
  refine WS.pend rfl ?_
  refine WS.pcondF rfl rfl ?_
  refine WS.pskip rfl ?_
  refine WS.pseq rfl ?_
  refine WS.pseq rfl ?_
  refine WS.pregion rfl ?_
  refine WS.po (tb := tb) rfl rfl rfl rfl rfl ?_
  refine WS.poDF (tb := tb) rfl rfl rfl rfl rfl (by omega) ?_
  refine WS.po (tb := tb) rfl rfl rfl rfl rfl ?_
  refine WS.po (tb := tb) rfl rfl rfl rfl rfl ?_
  refine WS.poDF (tb := tb) rfl rfl rfl rfl rfl (by omega) ?_
  refine WS.po (tb := tb) rfl rfl rfl rfl rfl ?_
  refine WS.po (tb := tb) rfl rfl rfl rfl rfl ?_
  refine WS.po (tb := tb) rfl rfl rfl rfl rfl ?_
  refine WS.poDF (tb := tb) rfl rfl rfl rfl rfl (by omega) ?_
  refine WS.po (tb := tb) rfl rfl rfl rfl rfl ?_
  refine WS.po (tb := tb) rfl rfl rfl rfl rfl ?_
  refine WS.po (tb := tb) rfl rfl rfl rfl rfl ?_
  refine WS.po (tb := tb) rfl rfl rfl rfl rfl ?_
  refine WS.poDF (tb := tb) rfl rfl rfl rfl rfl (by omega) ?_
  refine WS.po (tb := tb) rfl rfl rfl rfl rfl ?_
  refine WS.pend rfl ?_
  refine WS.pcondF rfl rfl ?_
  refine WS.pskip rfl ?_
  refine WS.pseq rfl ?_
  refine WS.pregion rfl ?_
  refine WS.po (tb := tb) rfl rfl rfl rfl rfl ?_
  refine WS.pcallM (tb := tb) [] (new_ok size h1 (by omega)) rfl rfl rfl rfl rfl (by (try simp only [mapL, mapV, List.getD_cons_zero, List.getD_cons_succ]); exact rfl) (by simp [okL, okV, arM, iniP_len]) rfl (by simp [embP, okL, okV, mapL, mapV, mem_next, mem_get, mem_ro, mapL_cellsR, okL_cellsR, arM, iniP_len]) rfl ?_; rintro _ _ ⟨rfl, rfl⟩ -; simp only [plugL, setsL, newsL, isOwn, ownB, over, mapL, mapV, List.getD_cons_zero, List.getD_cons_succ, List.set_cons_zero, List.set_cons_succ, List.length_cons, List.length_nil, Nat.reduceAdd, Nat.reduceLT, Nat.zero_add, if_true, if_false, Nat.reduceSub, reduceIte, List.map_cons, List.map_nil, List.append_nil, List.cons_append, List.nil_append, mapL_cellsR, Nat.lt_irrefl, Nat.not_lt_zero, Nat.zero_lt_succ, Nat.lt_add_one, arM, iniP_len]
  refine WS.po (tb := tb) rfl rfl rfl rfl rfl ?_
  refine WS.po (tb := tb) rfl rfl rfl rfl rfl ?_
  refine WS.po (tb := tb) rfl rfl rfl rfl rfl ?_
  refine WS.po (tb := tb) rfl rfl rfl rfl rfl ?_
  refine WS.po (tb := tb) rfl rfl rfl rfl rfl ?_
  refine WS.pend rfl ?_
  refine WS.pseq rfl ?_
  refine WS.pseq rfl ?_
  refine WS.pregion rfl ?_
  refine WS.po (tb := tb) rfl rfl rfl rfl rfl ?_
  refine WS.poB (tb := tb) false rfl rfl rfl rfl rfl rfl ?_
  refine WS.pend rfl ?_
  refine WS.pcondF rfl rfl ?_
  refine WS.pskip rfl ?_
  refine WS.pseq rfl ?_
  refine WS.pseq rfl ?_
  refine WS.pregion rfl ?_
  refine WS.po (tb := tb) rfl rfl rfl rfl rfl ?_
  refine WS.pend rfl ?_
  refine WS.pblock rfl ?_
  have e1 : iniP size size = mkl (size + 1) (pl1 size 0) := (iniP_mkl size).trans (mkl_ext fun j _ => by rw [pl1, if_neg (by omega)])
  have e2 : fr1 size 0 = 1 := by rw [fr1, if_pos (by omega)]; rfl
  rw [e1]
  refine WS.ploopI (σ := Nat) (τ := Unit) (fun i => [(0, .i .i64 size), (1, .i .i64 n), (5, .p (some (1,0))), (7, .i .i64 ((i : Int) + 1))]) (fun i => arM (mkl (size + 1) (pl1 size i)) (fr1 size i) i) (fun i => i ≤ n) (fun i => n - i)
    (fun _ => [(0, .i .i64 size), (1, .i .i64 n), (5, .p (some (1,0)))]) (fun _ => arM (mkl (size + 1) (pl2 size n 0)) (fr3 size n 0) n) (fun _ => True) 0 [0,1] 0 rfl (Nat.zero_le _) ⟨rfl, rfl, (by simp [viewP, okL, okV, mapL, mapV, mem_get, mapL_cellsR, okL_cellsR, arM, mkl_len, e2]), (by first | exact rfl | exact own2_dist rfl rfl), (by simp only [slotsP, okV, okL, mapV, mapL, and_true, true_and, List.length_cons, List.length_nil, List.length_append, List.length_map, Nat.reduceAdd, Nat.reduceLT, arM, mkl_len, e2]; repeat' (first | exact rfl | refine ⟨?_, ?_⟩ | exact lk_m rfl (hmp _ rfl) | exact hok _ (Nat.le_of_ble_eq_true rfl) | exact lk_i rfl (by omega) | exact lk_sl rfl (by omega) (by omega) (by omega) | decide | omega))⟩ rfl ?_ ?_
  · intro i hi
    by_cases h : i < n
    · have e3 : fr1 size i = (i : Int) + 1 := by rw [fr1, if_pos (by omega)]
      simp only [arM, mkl_len, e3]
      refine WS.pseq rfl ?_
      refine WS.pseq rfl ?_
      refine WS.pregion rfl ?_
      refine WS.po (tb := tb) rfl rfl rfl rfl rfl ?_
      refine WS.po (tb := tb) rfl rfl rfl rfl rfl ?_
      refine WS.poDT (tb := tb) rfl rfl rfl rfl rfl (by omega) ?_
      refine WS.pend rfl ?_
      refine WS.pcondT rfl rfl ?_
      refine WS.pskip rfl ?_
      refine WS.pseq rfl ?_
      refine WS.pblock rfl ?_
      refine WS.pseq rfl ?_
      refine WS.pregion rfl ?_
      refine WS.po (tb := tb) rfl rfl rfl rfl rfl ?_
      refine WS.pcallM (tb := tb) [0,1] (take1 size i (by omega) h2) rfl rfl rfl rfl rfl (by (try simp only [mapL, mapV, List.getD_cons_zero, List.getD_cons_succ]); exact rfl) (by simp [okL, okV, arM, mkl_len]) rfl (by simp [embP, okL, okV, mapL, mapV, mem_next, mem_get, mem_ro, mapL_cellsR, okL_cellsR, arM, mkl_len]) rfl ?_; rintro _ _ ⟨rfl, rfl⟩ -; simp only [plugL, setsL, newsL, isOwn, ownB, over, mapL, mapV, List.getD_cons_zero, List.getD_cons_succ, List.set_cons_zero, List.set_cons_succ, List.length_cons, List.length_nil, Nat.reduceAdd, Nat.reduceLT, Nat.zero_add, if_true, if_false, Nat.reduceSub, reduceIte, List.map_cons, List.map_nil, List.append_nil, List.cons_append, List.nil_append, mapL_cellsR, Nat.lt_irrefl, Nat.not_lt_zero, Nat.zero_lt_succ, Nat.lt_add_one, arM, mkl_len]
      refine WS.po (tb := tb) rfl rfl rfl rfl rfl ?_
      refine WS.po (tb := tb) rfl rfl rfl rfl rfl ?_
      refine WS.po (tb := tb) rfl rfl rfl rfl rfl ?_
      refine WS.po (tb := tb) rfl rfl rfl rfl rfl ?_
      refine WS.po (tb := tb) rfl rfl rfl rfl rfl ?_
      refine WS.pend rfl ?_
      refine WS.pseq rfl ?_
      refine WS.pregion rfl ?_
      refine WS.po (tb := tb) rfl rfl rfl rfl rfl ?_
      refine WS.poB (tb := tb) false rfl rfl rfl rfl rfl rfl ?_
      refine WS.po (tb := tb) rfl rfl rfl rfl rfl ?_
      refine WS.po (tb := tb) rfl rfl rfl rfl rfl ?_
      refine WS.po (tb := tb) rfl rfl rfl rfl rfl ?_
      refine WS.poW (tb := tb) rfl rfl rfl rfl rfl (by simp only [lo]; omega) (by simp only [Am.hi]; omega) ?_
      refine WS.poNF (tb := tb) rfl rfl rfl rfl rfl (by omega) ?_
      refine WS.po (tb := tb) rfl rfl rfl rfl rfl ?_
      refine WS.po (tb := tb) rfl rfl rfl rfl rfl ?_
      refine WS.po (tb := tb) rfl rfl rfl rfl rfl ?_
      refine WS.po (tb := tb) rfl rfl rfl rfl rfl ?_
      refine WS.po (tb := tb) rfl rfl rfl rfl rfl ?_
      refine WS.poA (tb := tb) rfl rfl rfl rfl rfl (by simp only [vcells, setL, List.set_cons_zero, List.set_cons_succ, List.getElem_toArray, List.getElem_cons_zero, List.getElem_cons_succ, Nat.zero_add, Nat.add_zero, Nat.reduceAdd, Nat.reduceMul, Nat.add_assoc, Nat.mul_one, Int.toNat_natCast, Int.reduceToNat, Int.toNat_zero, Nat.zero_mul]; exact rfl) ?_
      refine WS.pcallM (tb := tb) [0,1] (put1 size i (by omega) h2 (fr1 size (i+1)) ((i:Int)+1)) rfl rfl rfl rfl rfl (by (try simp only [mapL, mapV, List.getD_cons_zero, List.getD_cons_succ]); exact rfl) (by simp [okL, okV, arM, mkl_len]) rfl (by simp [embP, okL, okV, mapL, mapV, mem_next, mem_get, mem_ro, mapL_cellsR, okL_cellsR, arM, mkl_len]) rfl ?_; rintro _ _ ⟨rfl, rfl⟩ -; simp only [plugL, setsL, newsL, isOwn, ownB, over, mapL, mapV, List.getD_cons_zero, List.getD_cons_succ, List.set_cons_zero, List.set_cons_succ, List.length_cons, List.length_nil, Nat.reduceAdd, Nat.reduceLT, Nat.zero_add, if_true, if_false, Nat.reduceSub, reduceIte, List.map_cons, List.map_nil, List.append_nil, List.cons_append, List.nil_append, mapL_cellsR, Nat.lt_irrefl, Nat.not_lt_zero, Nat.zero_lt_succ, Nat.lt_add_one, arM, mkl_len]
      refine WS.poB (tb := tb) false rfl rfl rfl rfl rfl rfl ?_
      refine WS.po (tb := tb) rfl rfl rfl rfl rfl ?_
      refine WS.pend rfl ?_
      refine WS.pcondF rfl rfl ?_
      refine WS.pskip rfl ?_
      refine WS.pregion rfl ?_
      refine WS.po (tb := tb) rfl rfl rfl rfl rfl ?_
      refine WS.poW (tb := tb) rfl rfl rfl rfl rfl (by simp only [lo]; omega) (by simp only [Am.hi]; omega) ?_
      refine WS.po (tb := tb) rfl rfl rfl rfl rfl ?_
      refine WS.pend rfl ?_
      refine WS.nil ?_
      exact ⟨i + 1, by omega, by omega, (SeenBy.seen (v := [0,1]) ⟨rfl, rfl, (by simp [viewP, okL, okV, mapL, mapV, mem_get, mapL_cellsR, okL_cellsR, arM, mkl_len]), (by first | exact rfl | exact own2_dist rfl rfl), (by simp only [slotsP, okV, okL, mapV, mapL, and_true, true_and, List.length_cons, List.length_nil, List.length_append, List.length_map, Nat.reduceAdd, Nat.reduceLT, arM, mkl_len]; repeat' (first | exact rfl | refine ⟨?_, ?_⟩ | exact lk_m rfl (hmp _ rfl) | exact hok _ (Nat.le_of_ble_eq_true rfl) | exact lk_i rfl (by omega) | exact lk_sl rfl (by omega) (by omega) (by omega) | decide | omega))⟩)⟩
    · have e : i = n := by omega
      subst e
      have e3 : mkl (size + 1) (pl2 size i 0) = mkl (size + 1) (pl1 size i) := mkl_ext fun j _ => by rw [pl2, if_neg (by omega)]
      have e4 : fr3 size i 0 = fr1 size i := by rw [fr3, if_pos rfl]
      simp only [arM, mkl_len]
      refine WS.pseq rfl ?_
      refine WS.pseq rfl ?_
      refine WS.pregion rfl ?_
      refine WS.po (tb := tb) rfl rfl rfl rfl rfl ?_
      refine WS.po (tb := tb) rfl rfl rfl rfl rfl ?_
      refine WS.poDF (tb := tb) rfl rfl rfl rfl rfl (by omega) ?_
      refine WS.pend rfl ?_
      refine WS.pcondF rfl rfl ?_
      refine WS.pout rfl rfl ?_
      exact ⟨rfl, (), trivial, (SeenBy.seen (v := [0,1]) ⟨rfl, rfl, (by simp [viewP, okL, okV, mapL, mapV, mem_get, mapL_cellsR, okL_cellsR, arM, mkl_len, e3, e4]), (by first | exact rfl | exact own2_dist rfl rfl), (by simp only [slotsP, okV, okL, mapV, mapL, and_true, true_and, List.length_cons, List.length_nil, List.length_append, List.length_map, Nat.reduceAdd, Nat.reduceLT, arM, mkl_len, e3, e4]; repeat' (first | exact rfl | refine ⟨?_, ?_⟩ | exact lk_m rfl (hmp _ rfl) | exact hok _ (Nat.le_of_ble_eq_true rfl) | exact lk_i rfl (by omega) | exact lk_sl rfl (by omega) (by omega) (by omega) | decide | omega))⟩)⟩
  · rintro _ -
    simp only [arM, mkl_len]
    refine WS.pseq rfl ?_
    refine WS.pseq rfl ?_
    refine WS.pregion rfl ?_
    refine WS.po (tb := tb) rfl rfl rfl rfl rfl ?_
    refine WS.pend rfl ?_
    refine WS.pblock rfl ?_
    refine WS.ploopI (σ := Nat) (τ := Unit) (fun i => [(0, .i .i64 size), (1, .i .i64 n), (5, .p (some (1,0))), (10, .i .i64 ((i : Int) + 1))]) (fun i => arM (mkl (size + 1) (pl2 size n i)) (fr3 size n i) ((n : Int) - i)) (fun i => i ≤ n) (fun i => n - i)
      (fun _ => [(0, .i .i64 size), (1, .i .i64 n), (5, .p (some (1,0)))]) (fun _ => arM (mkl (size + 1) (pl3 size n n)) n 0) (fun _ => True) 2 [0,1] 0 rfl (Nat.zero_le _) ⟨rfl, rfl, (by simp [viewP, okL, okV, mapL, mapV, mem_get, mapL_cellsR, okL_cellsR, arM, mkl_len, Int.sub_zero, Int.natCast_zero]), (by first | exact rfl | exact own2_dist rfl rfl), (by simp only [slotsP, okV, okL, mapV, mapL, and_true, true_and, List.length_cons, List.length_nil, List.length_append, List.length_map, Nat.reduceAdd, Nat.reduceLT, arM, mkl_len, Int.sub_zero, Int.natCast_zero]; repeat' (first | exact rfl | refine ⟨?_, ?_⟩ | exact lk_m rfl (hmp _ rfl) | exact hok _ (Nat.le_of_ble_eq_true rfl) | exact lk_i rfl (by omega) | exact lk_sl rfl (by omega) (by omega) (by omega) | decide | omega))⟩ rfl ?_ ?_
    · intro i hi
      by_cases h : i < n
      · have e3 : fr3 size n (i + 1) = (i : Int) + 1 := by rw [fr3, if_neg (by omega)]; omega
        have e4 : (n : Int) - ((i : Int) + 1) = (n : Int) - i - 1 := by omega
        simp only [arM, mkl_len]
        refine WS.pseq rfl ?_
        refine WS.pseq rfl ?_
        refine WS.pregion rfl ?_
        refine WS.po (tb := tb) rfl rfl rfl rfl rfl ?_
        refine WS.po (tb := tb) rfl rfl rfl rfl rfl ?_
        refine WS.poDT (tb := tb) rfl rfl rfl rfl rfl (by omega) ?_
        refine WS.pend rfl ?_
        refine WS.pcondT rfl rfl ?_
        refine WS.pskip rfl ?_
        refine WS.pseq rfl ?_
        refine WS.pblock rfl ?_
        refine WS.pseq rfl ?_
        refine WS.pregion rfl ?_
        refine WS.po (tb := tb) rfl rfl rfl rfl rfl ?_
        refine WS.po (tb := tb) rfl rfl rfl rfl rfl ?_
        refine WS.poW (tb := tb) rfl rfl rfl rfl rfl (by simp only [lo]; omega) (by simp only [Am.hi]; omega) ?_
        refine WS.pcallM (tb := tb) [0,1] (give1 size n i h h4 h2) rfl rfl rfl rfl rfl (by (try simp only [mapL, mapV, List.getD_cons_zero, List.getD_cons_succ]); exact rfl) (by simp [okL, okV, arM, mkl_len]) rfl (by simp [embP, okL, okV, mapL, mapV, mem_next, mem_get, mem_ro, mapL_cellsR, okL_cellsR, arM, mkl_len]) rfl ?_; rintro _ _ ⟨rfl, rfl⟩ -; simp only [plugL, setsL, newsL, isOwn, ownB, over, mapL, mapV, List.getD_cons_zero, List.getD_cons_succ, List.set_cons_zero, List.set_cons_succ, List.length_cons, List.length_nil, Nat.reduceAdd, Nat.reduceLT, Nat.zero_add, if_true, if_false, Nat.reduceSub, reduceIte, List.map_cons, List.map_nil, List.append_nil, List.cons_append, List.nil_append, mapL_cellsR, Nat.lt_irrefl, Nat.not_lt_zero, Nat.zero_lt_succ, Nat.lt_add_one, arM, mkl_len]
        refine WS.poB (tb := tb) false rfl rfl rfl rfl rfl rfl ?_
        refine WS.pend rfl ?_
        refine WS.pcondF rfl rfl ?_
        refine WS.pskip rfl ?_
        refine WS.pregion rfl ?_
        refine WS.po (tb := tb) rfl rfl rfl rfl rfl ?_
        refine WS.poW (tb := tb) rfl rfl rfl rfl rfl (by simp only [lo]; omega) (by simp only [Am.hi]; omega) ?_
        refine WS.po (tb := tb) rfl rfl rfl rfl rfl ?_
        refine WS.pend rfl ?_
        refine WS.nil ?_
        exact ⟨i + 1, by omega, by omega, (SeenBy.seen (v := [0,1]) ⟨rfl, rfl, (by simp [viewP, okL, okV, mapL, mapV, mem_get, mapL_cellsR, okL_cellsR, arM, mkl_len, e3, e4]), (by first | exact rfl | exact own2_dist rfl rfl), (by simp only [slotsP, okV, okL, mapV, mapL, and_true, true_and, List.length_cons, List.length_nil, List.length_append, List.length_map, Nat.reduceAdd, Nat.reduceLT, arM, mkl_len, e3, e4]; repeat' (first | exact rfl | refine ⟨?_, ?_⟩ | exact lk_m rfl (hmp _ rfl) | exact hok _ (Nat.le_of_ble_eq_true rfl) | exact lk_i rfl (by omega) | exact lk_sl rfl (by omega) (by omega) (by omega) | decide | omega))⟩)⟩
      · have e : i = n := by omega
        subst e
        have e3 : mkl (size + 1) (pl3 size i i) = mkl (size + 1) (pl2 size i i) := mkl_ext fun j _ => by rw [pl3, if_neg (by omega)]
        have e4 : fr3 size i i = i := by rw [fr3, if_neg (by omega)]
        simp only [arM, mkl_len]
        refine WS.pseq rfl ?_
        refine WS.pseq rfl ?_
        refine WS.pregion rfl ?_
        refine WS.po (tb := tb) rfl rfl rfl rfl rfl ?_
        refine WS.po (tb := tb) rfl rfl rfl rfl rfl ?_
        refine WS.poDF (tb := tb) rfl rfl rfl rfl rfl (by omega) ?_
        refine WS.pend rfl ?_
        refine WS.pcondF rfl rfl ?_
        refine WS.pout rfl rfl ?_
        exact ⟨rfl, (), trivial, (SeenBy.seen (v := [0,1]) ⟨rfl, rfl, (by simp [viewP, okL, okV, mapL, mapV, mem_get, mapL_cellsR, okL_cellsR, arM, mkl_len, e3, e4, Int.sub_self]), (by first | exact rfl | exact own2_dist rfl rfl), (by simp only [slotsP, okV, okL, mapV, mapL, and_true, true_and, List.length_cons, List.length_nil, List.length_append, List.length_map, Nat.reduceAdd, Nat.reduceLT, arM, mkl_len, e3, e4, Int.sub_self]; repeat' (first | exact rfl | refine ⟨?_, ?_⟩ | exact lk_m rfl (hmp _ rfl) | exact hok _ (Nat.le_of_ble_eq_true rfl) | exact lk_i rfl (by omega) | exact lk_sl rfl (by omega) (by omega) (by omega) | decide | omega))⟩)⟩
    · rintro _ -
      simp only [arM, mkl_len]
      refine WS.pseq rfl ?_
      refine WS.pseq rfl ?_
      refine WS.pregion rfl ?_
      refine WS.po (tb := tb) rfl rfl rfl rfl rfl ?_
      refine WS.po (tb := tb) rfl rfl rfl rfl rfl ?_
      refine WS.pend rfl ?_
      refine WS.pblock rfl ?_
      have e5 : fr3 size n n = n := by rw [fr3, if_neg (by omega)]
      refine WS.ploopI (σ := Nat) (τ := Unit) (fun i => [(0, .i .i64 size), (1, .i .i64 n), (5, .p (some (1,0))), (11, .i .i64 ((n : Int) - i))]) (fun i => arM (mkl (size + 1) (pl3 size n (n - i))) (fr3 size n (n - i)) i) (fun i => i ≤ n) (fun i => n - i)
        (fun _ => [(0, .i .i64 size), (1, .i .i64 n), (5, .p (some (1,0)))]) (fun _ => arM (mkl (size + 1) (pl3 size n 0)) (fr3 size n 0) n) (fun _ => True) 4 [0,1] 0 rfl (Nat.zero_le _) ⟨rfl, rfl, (by simp [viewP, okL, okV, mapL, mapV, mem_get, mapL_cellsR, okL_cellsR, arM, mkl_len, Int.sub_zero, Int.natCast_zero, Nat.sub_zero, e5]), (by first | exact rfl | exact own2_dist rfl rfl), (by simp only [slotsP, okV, okL, mapV, mapL, and_true, true_and, List.length_cons, List.length_nil, List.length_append, List.length_map, Nat.reduceAdd, Nat.reduceLT, arM, mkl_len, Int.sub_zero, Int.natCast_zero, Nat.sub_zero, e5]; repeat' (first | exact rfl | refine ⟨?_, ?_⟩ | exact lk_m rfl (hmp _ rfl) | exact hok _ (Nat.le_of_ble_eq_true rfl) | exact lk_i rfl (by omega) | exact lk_sl rfl (by omega) (by omega) (by omega) | decide | omega))⟩ rfl ?_ ?_
      · intro i hi
        by_cases h : i < n
        · obtain ⟨j, hj⟩ : ∃ j, n = i + j + 1 := ⟨n - i - 1, by omega⟩
          have f1 : n - i = j + 1 := by omega
          have f2 : n - (i + 1) = j := by omega
          have f3 : (n : Int) - i = (j : Int) + 1 := by omega
          have f4 : (n : Int) - ((i : Int) + 1) = (j : Int) := by omega
          have f5 : fr3 size n (j + 1) = (j : Int) + 1 := by rw [fr3, if_neg (by omega)]; omega
          have f6 : (n : Int) - j - 1 = i := by omega
          have f7 : (n : Int) - j = (i : Int) + 1 := by omega
          have T := take3 size n j (by omega) h4 h2
          rw [f6, f7] at T
          simp only [arM, mkl_len, f1, f3, f5]
          refine WS.pseq rfl ?_
          refine WS.pseq rfl ?_
          refine WS.pregion rfl ?_
          refine WS.po (tb := tb) rfl rfl rfl rfl rfl ?_
          refine WS.poDT (tb := tb) rfl rfl rfl rfl rfl (by omega) ?_
          refine WS.pend rfl ?_
          refine WS.pcondT rfl rfl ?_
          refine WS.pskip rfl ?_
          refine WS.pseq rfl ?_
          refine WS.pblock rfl ?_
          refine WS.pseq rfl ?_
          refine WS.pregion rfl ?_
          refine WS.po (tb := tb) rfl rfl rfl rfl rfl ?_
          refine WS.pcallM (tb := tb) [0,1] T rfl rfl rfl rfl rfl (by (try simp only [mapL, mapV, List.getD_cons_zero, List.getD_cons_succ]); exact rfl) (by simp [okL, okV, arM, mkl_len]) rfl (by simp [embP, okL, okV, mapL, mapV, mem_next, mem_get, mem_ro, mapL_cellsR, okL_cellsR, arM, mkl_len]) rfl ?_; rintro _ _ ⟨rfl, rfl⟩ -; simp only [plugL, setsL, newsL, isOwn, ownB, over, mapL, mapV, List.getD_cons_zero, List.getD_cons_succ, List.set_cons_zero, List.set_cons_succ, List.length_cons, List.length_nil, Nat.reduceAdd, Nat.reduceLT, Nat.zero_add, if_true, if_false, Nat.reduceSub, reduceIte, List.map_cons, List.map_nil, List.append_nil, List.cons_append, List.nil_append, mapL_cellsR, Nat.lt_irrefl, Nat.not_lt_zero, Nat.zero_lt_succ, Nat.lt_add_one, arM, mkl_len]
          refine WS.po (tb := tb) rfl rfl rfl rfl rfl ?_
          refine WS.po (tb := tb) rfl rfl rfl rfl rfl ?_
          refine WS.po (tb := tb) rfl rfl rfl rfl rfl ?_
          refine WS.po (tb := tb) rfl rfl rfl rfl rfl ?_
          refine WS.po (tb := tb) rfl rfl rfl rfl rfl ?_
          refine WS.pend rfl ?_
          refine WS.pseq rfl ?_
          refine WS.pregion rfl ?_
          refine WS.po (tb := tb) rfl rfl rfl rfl rfl ?_
          refine WS.po (tb := tb) rfl rfl rfl rfl rfl ?_
          refine WS.pcallM (tb := tb) [0,1] (get3 size n j (by omega) h4 h2 (fr3 size n j) ((i : Int) + 1)) rfl rfl rfl rfl rfl (by (try simp only [mapL, mapV, List.getD_cons_zero, List.getD_cons_succ]); exact rfl) (by simp [okL, okV, arM, mkl_len]) rfl (by simp [embP, okL, okV, mapL, mapV, mem_next, mem_get, mem_ro, mapL_cellsR, okL_cellsR, arM, mkl_len]) rfl ?_; rintro _ _ ⟨rfl, rfl⟩ -; simp only [plugL, setsL, newsL, isOwn, ownB, over, mapL, mapV, List.getD_cons_zero, List.getD_cons_succ, List.set_cons_zero, List.set_cons_succ, List.length_cons, List.length_nil, Nat.reduceAdd, Nat.reduceLT, Nat.zero_add, if_true, if_false, Nat.reduceSub, reduceIte, List.map_cons, List.map_nil, List.append_nil, List.cons_append, List.nil_append, mapL_cellsR, Nat.lt_irrefl, Nat.not_lt_zero, Nat.zero_lt_succ, Nat.lt_add_one, arM, mkl_len]
          refine WS.po (tb := tb) rfl rfl rfl rfl rfl ?_
          refine WS.po (tb := tb) rfl rfl rfl rfl rfl ?_
          refine WS.po (tb := tb) rfl rfl rfl rfl rfl ?_
          refine WS.po (tb := tb) rfl rfl rfl rfl rfl ?_; rw [new_mem]; simp only [List.cons_append, List.nil_append, vcells, mem_next, List.length_cons, List.length_nil, Nat.zero_add, Nat.reduceAdd, reps, List.append_nil, setL, List.set_cons_zero, List.set_cons_succ, Nat.zero_mul, Nat.reduceMul]
          refine WS.po0 (tb := tb) rfl rfl rfl rfl (step_H rfl rfl (evH_store rfl rfl rfl rfl rfl (Nat.zero_le _) rfl (by simp [vcells]) (Nat.le_of_ble_eq_true rfl))) ?_; rw [upd_mem _ rfl]; simp only [vcells, setL, List.set_cons_zero, List.set_cons_succ]
          refine WS.po (tb := tb) rfl rfl rfl rfl rfl ?_
          refine WS.pend rfl ?_
          refine WS.pseq rfl ?_
          refine WS.pregion rfl ?_
          refine WS.po (tb := tb) rfl rfl rfl rfl rfl ?_
          refine WS.poB (tb := tb) false rfl rfl rfl rfl rfl rfl ?_
          refine WS.po (tb := tb) rfl rfl rfl rfl rfl ?_
          refine WS.po (tb := tb) rfl rfl rfl rfl rfl ?_
          refine WS.poB (tb := tb) false rfl rfl rfl rfl rfl rfl ?_
          refine WS.po (tb := tb) rfl rfl rfl rfl rfl ?_
          refine WS.po (tb := tb) rfl rfl rfl rfl rfl ?_
          refine WS.po (tb := tb) rfl rfl rfl rfl rfl ?_
          refine WS.po (tb := tb) rfl rfl rfl rfl rfl ?_
          refine WS.poW (tb := tb) rfl rfl rfl rfl rfl (by simp only [lo]; omega) (by simp only [Am.hi]; omega) ?_
          refine WS.poNF (tb := tb) rfl rfl rfl rfl rfl (by omega) ?_
          refine WS.po (tb := tb) rfl rfl rfl rfl rfl ?_
          refine WS.po (tb := tb) rfl rfl rfl rfl rfl ?_
          refine WS.poA (tb := tb) rfl rfl rfl rfl rfl (by simp only [List.drop_zero, List.drop_succ_cons, List.take_succ_cons, List.take_zero, rwPl]; exact rfl) ?_
          refine WS.poA (tb := tb) rfl rfl rfl rfl rfl (by simp only [vcells, setL, List.set_cons_zero, List.set_cons_succ, List.getElem_toArray, List.getElem_cons_zero, List.getElem_cons_succ, Nat.zero_add, Nat.add_zero, Nat.reduceAdd, Nat.reduceMul, Nat.add_assoc, Nat.mul_one, Int.toNat_natCast, Int.reduceToNat, Int.toNat_zero, Nat.zero_mul]; exact rfl) ?_
          refine WS.poB (tb := tb) false rfl rfl rfl rfl (step_P (evP_neq rfl rfl rfl (by kernel_rfl) (by kernel_rfl))) (by rw [Node_eq]; exact nd_f (by omega)) ?_
          refine WS.po (tb := tb) rfl rfl rfl rfl rfl ?_
          refine WS.pend rfl ?_
          refine WS.pcondF rfl rfl ?_
          refine WS.pskip rfl ?_
          refine WS.pregion rfl ?_
          refine WS.po (tb := tb) rfl rfl rfl rfl rfl ?_
          refine WS.poW (tb := tb) rfl rfl rfl rfl rfl (by simp only [lo]; omega) (by simp only [Am.hi]; omega) ?_
          refine WS.po (tb := tb) rfl rfl rfl rfl rfl ?_
          refine WS.pend rfl ?_
          refine WS.nil ?_
          exact ⟨i + 1, by omega, by omega, (SeenBy.seen (v := [0,1]) ⟨rfl, rfl, (by simp [viewP, okL, okV, mapL, mapV, mem_get, mapL_cellsR, okL_cellsR, arM, mkl_len, f2, f4]), (by first | exact rfl | exact own2_dist rfl rfl), (by simp only [slotsP, okV, okL, mapV, mapL, and_true, true_and, List.length_cons, List.length_nil, List.length_append, List.length_map, Nat.reduceAdd, Nat.reduceLT, arM, mkl_len, f2, f4]; repeat' (first | exact rfl | refine ⟨?_, ?_⟩ | exact lk_m rfl (hmp _ rfl) | exact hok _ (Nat.le_of_ble_eq_true rfl) | exact lk_i rfl (by omega) | exact lk_sl rfl (by omega) (by omega) (by omega) | decide | omega))⟩)⟩
        · have e : i = n := by omega
          subst e
          simp only [arM, mkl_len]
          refine WS.pseq rfl ?_
          refine WS.pseq rfl ?_
          refine WS.pregion rfl ?_
          refine WS.po (tb := tb) rfl rfl rfl rfl rfl ?_
          refine WS.poDF (tb := tb) rfl rfl rfl rfl rfl (by omega) ?_
          refine WS.pend rfl ?_
          refine WS.pcondF rfl rfl ?_
          refine WS.pout rfl rfl ?_
          exact ⟨rfl, (), trivial, (SeenBy.seen (v := [0,1]) ⟨rfl, rfl, (by simp [viewP, okL, okV, mapL, mapV, mem_get, mapL_cellsR, okL_cellsR, arM, mkl_len, Nat.sub_self]), (by first | exact rfl | exact own2_dist rfl rfl), (by simp only [slotsP, okV, okL, mapV, mapL, and_true, true_and, List.length_cons, List.length_nil, List.length_append, List.length_map, Nat.reduceAdd, Nat.reduceLT, arM, mkl_len, Nat.sub_self]; repeat' (first | exact rfl | refine ⟨?_, ?_⟩ | exact lk_m rfl (hmp _ rfl) | exact hok _ (Nat.le_of_ble_eq_true rfl) | exact lk_i rfl (by omega) | exact lk_sl rfl (by omega) (by omega) (by omega) | decide | omega))⟩)⟩
      · rintro _ -
        have L := live_is (mkl (size + 1) (pl3 size n 0)) (fr3 size n 0) n
        simp only [arM, mkl_len]
        refine WS.pseq rfl ?_
        refine WS.pregion rfl ?_
        refine WS.po (tb := tb) rfl rfl rfl rfl rfl ?_
        refine WS.pcallM (tb := tb) [0,1] L rfl rfl rfl rfl rfl (by (try simp only [mapL, mapV, List.getD_cons_zero, List.getD_cons_succ]); exact rfl) (by simp [okL, okV, arM, mkl_len]) rfl (by simp [embP, okL, okV, mapL, mapV, mem_next, mem_get, mem_ro, mapL_cellsR, okL_cellsR, arM, mkl_len]) rfl ?_; rintro _ _ ⟨rfl, rfl⟩ -; simp only [plugL, setsL, newsL, isOwn, ownB, over, mapL, mapV, List.getD_cons_zero, List.getD_cons_succ, List.set_cons_zero, List.set_cons_succ, List.length_cons, List.length_nil, Nat.reduceAdd, Nat.reduceLT, Nat.zero_add, if_true, if_false, Nat.reduceSub, reduceIte, List.map_cons, List.map_nil, List.append_nil, List.cons_append, List.nil_append, mapL_cellsR, Nat.lt_irrefl, Nat.not_lt_zero, Nat.zero_lt_succ, Nat.lt_add_one, arM, mkl_len]
        refine WS.po (tb := tb) rfl rfl rfl rfl rfl ?_
        refine WS.poDT (tb := tb) rfl rfl rfl rfl rfl (by omega) ?_
        refine WS.po (tb := tb) rfl rfl rfl rfl rfl ?_
        refine WS.pend rfl ?_
        refine WS.pret rfl ⟨.inr rfl, _, rfl, ?_⟩
        exact ⟨_, rfl, rfl⟩
end Go.Proofs.Ytjoocblinfnhgaa.Am

