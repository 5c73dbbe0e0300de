/- Functions of the tree and of the law TreePlays, walked. Conditions: those of each theorem. -/
import Derived.Test.YtpogfelbimcglaaTp5
namespace Go.Proofs.Ytpogfelbimcglaa.Am
open Go.Proofs
set_option maxRecDepth 1000000
set_option maxHeartbeats 4000000
set_option linter.unusedSimpArgs false
set_option linter.unusedVariables false
theorem runs_lf {s : TS} (h : s.T = .lf) : runsT s.T = [] := by rw [h]; rfl
theorem n_lf {s : TS} (h : s.T = .lf) : s.n = 0 := by rw [TS.n, h]; rfl
def rBz : Option Blk := some ⟨[.i .i64 0, .i .i64 0, .i .i64 0], 31, true⟩
theorem asked_none {n : Nat} {s : TS} (k : Int) (h : TOk n s) (hm : n ≤ 60) (hT : s.T = .lf) : FM Try.prog 19 [.p (some (2,0)), .sl none 0 0 false, .i .i64 k] (asN s) (fun v M' => v = .b true ∧ M' = asN s) := by
  have F1 := findR_walk k h (by omega) none (by rw [runs_lf hT]; rfl)
  have F2 := floorR_walk k h (by omega) none (by rw [runs_lf hT]; rfl)
  have F3 := ceilR_walk k h (by omega) none (by rw [runs_lf hT]; rfl)
  have A := at_none k
  have S := same_no [] none 0 0 false (-1) (by omega) (.inl rfl)
  refine FM.pbodyV (tb := tb) (fn := Try.f19) rfl rfl ?_
  simp only [argS, Nat.reduceAdd, asN, tsR, trR, arR, List.length_cons, List.length_nil, List.cons_append, List.nil_append]
  refine jq ?_
  refine jg ?_
  refine jo ?_
  refine je ?_
  refine jq ?_
  refine jg ?_
  iterate 2 refine jo ?_
  refine jc [0,1,2] F1 (by simp [jOb, tsR, trR, arR, rA, rB, rC]) (by simp [jEb, jOb, jMb, mapL_cellsR, okL_cellsR, tsR, trR, arR, rA, rB, rC]) ?_; rintro _ _ ⟨rfl, rfl⟩ -; simp only [jPg, jMb, ll, Nat.reduceAdd, Nat.reduceLT, Nat.zero_add, if_true, if_false, Nat.reduceSub, reduceIte, mapL_cellsR, Nat.lt_irrefl, Nat.not_lt_zero, Nat.zero_lt_succ, Nat.lt_add_one, tsR, trR, arR, rA, rB, rC]
  iterate 3 refine jo ?_
  refine jn ?_
  refine js ?_
  refine jo ?_
  refine je ?_
  refine jq ?_
  refine jg ?_
  iterate 2 refine jo ?_
  refine jc [0,1,2] F2 (by simp [jOb, tsR, trR, arR, rA, rB, rC]) (by simp [jEb, jOb, jMb, mapL_cellsR, okL_cellsR, tsR, trR, arR, rA, rB, rC]) ?_; rintro _ _ ⟨rfl, rfl⟩ -; simp only [jPg, jMb, ll, Nat.reduceAdd, Nat.reduceLT, Nat.zero_add, if_true, if_false, Nat.reduceSub, reduceIte, mapL_cellsR, Nat.lt_irrefl, Nat.not_lt_zero, Nat.zero_lt_succ, Nat.lt_add_one, tsR, trR, arR, rA, rB, rC]
  iterate 3 refine jo ?_
  refine jn ?_
  refine js ?_
  refine jo ?_
  refine je ?_
  refine jq ?_
  refine jg ?_
  iterate 2 refine jo ?_
  refine jc [0,1,2] F3 (by simp [jOb, tsR, trR, arR, rA, rB, rC]) (by simp [jEb, jOb, jMb, mapL_cellsR, okL_cellsR, tsR, trR, arR, rA, rB, rC]) ?_; rintro _ _ ⟨rfl, rfl⟩ -; simp only [jPg, jMb, ll, Nat.reduceAdd, Nat.reduceLT, Nat.zero_add, if_true, if_false, Nat.reduceSub, reduceIte, mapL_cellsR, Nat.lt_irrefl, Nat.not_lt_zero, Nat.zero_lt_succ, Nat.lt_add_one, tsR, trR, arR, rA, rB, rC]
  iterate 3 refine jo ?_
  refine jn ?_
  refine js ?_
  refine jo ?_
  refine je ?_
  refine jq ?_
  refine jg ?_
  refine jo ?_
  refine je ?_
  refine jq ?_
  refine jg ?_
  refine jo ?_
  refine je ?_
  iterate 2 refine jq ?_
  refine jg ?_
  refine jo ?_
  refine je ?_
  refine WS.pblock rfl ?_
  refine WS.ploopI (σ := Unit) (τ := Unit) (fun _ => [(0, .p (some (2,0))), (1, .sl none 0 0 false), (2, .i .i64 k), (7, .p (some (4,0))), (8, .b false), (9, .p (some (5,0))), (10, .b false), (11, .p (some (6,0))), (12, .b false), (13, .i .i64 (-1)), (14, .i .i64 (-1)), (15, .i .i64 0)])
    (fun _ => asN s ++ [rBz, rBz, rBz]) (fun _ => True) (fun _ => 0)
    (fun _ => [(1, .sl none 0 0 false), (2, .i .i64 k), (7, .p (some (4,0))), (8, .b false), (9, .p (some (5,0))), (10, .b false), (11, .p (some (6,0))), (12, .b false), (13, .i .i64 (-1)), (14, .i .i64 (-1))]) (fun _ => asN s ++ [rBz, rBz, rBz]) (fun _ => True) 0 [0,1,2,3,4,5,6] () rfl trivial (jSb (by simp [jVb, jOb, jMb, mapL_cellsR, okL_cellsR, asN, tsR, trR, arR, rBz]) (by simp only [jSl, jOb, jMb, Nat.reduceAdd, Nat.reduceLT, asN, tsR, trR, arR, rBz] <;> exact jClo)) rfl ?_ ?_
  · rintro _ -
    simp only [asN, tsR, trR, arR, rBz, List.cons_append, List.nil_append]
    iterate 2 refine jq ?_
    refine jg ?_
    iterate 3 refine jo ?_
    refine jB false ?_
    refine je ?_
    refine WS.pcondF rfl rfl ?_
    refine WS.pout rfl rfl ?_
    exact ⟨rfl, (), trivial, (jSn [0,1,2,3,4,5,6] (by simp [jVb, jOb, jMb, mapL_cellsR, okL_cellsR, asN, tsR, trR, arR, rBz]) (by simp only [jSl, jOb, jMb, Nat.reduceAdd, Nat.reduceLT, asN, tsR, trR, arR, rBz] <;> exact jClo))⟩
  · rintro _ -
    simp only [asN, tsR, trR, arR, rBz, List.cons_append, List.nil_append]
    refine jq ?_
    refine jg ?_
    iterate 2 refine jo ?_
    refine jc [] A (by simp [jOb]) (by simp [jEb, jOb, jMb, mapL_cellsR, okL_cellsR]) ?_; rintro _ _ ⟨rfl, rfl⟩ -; simp only [jPg, jMb, ll, Nat.reduceAdd, Nat.reduceLT, Nat.zero_add, if_true, if_false, Nat.reduceSub, reduceIte, mapL_cellsR, Nat.lt_irrefl, Nat.not_lt_zero, Nat.zero_lt_succ, Nat.lt_add_one]
    refine jo ?_
    refine je ?_
    refine jq ?_
    refine jg ?_
    iterate 2 refine jo ?_
    refine WS.poA (tb := tb) rfl rfl rfl rfl rfl (by simp only [List.drop_zero, List.drop_succ_cons, List.take_succ_cons, List.take_zero, rwPl, rwRn, rwVw]; exact rfl) ?_
    refine jo ?_
    refine jc [3] S (by simp [jOb]) (by simp [jEb, jOb, jMb, mapL_cellsR, okL_cellsR]) ?_; rintro _ _ ⟨rfl, rfl⟩ -; simp only [jPg, jMb, ll, Nat.reduceAdd, Nat.reduceLT, Nat.zero_add, if_true, if_false, Nat.reduceSub, reduceIte, mapL_cellsR, Nat.lt_irrefl, Nat.not_lt_zero, Nat.zero_lt_succ, Nat.lt_add_one]
    iterate 3 refine jo ?_
    refine WS.poA (tb := tb) rfl rfl rfl rfl rfl (by simp only [List.drop_zero, List.drop_succ_cons, List.take_succ_cons, List.take_zero, rwPl, rwRn, rwVw]; exact rfl) ?_
    refine jo ?_
    refine jc [3] S (by simp [jOb]) (by simp [jEb, jOb, jMb, mapL_cellsR, okL_cellsR]) ?_; rintro _ _ ⟨rfl, rfl⟩ -; simp only [jPg, jMb, ll, Nat.reduceAdd, Nat.reduceLT, Nat.zero_add, if_true, if_false, Nat.reduceSub, reduceIte, mapL_cellsR, Nat.lt_irrefl, Nat.not_lt_zero, Nat.zero_lt_succ, Nat.lt_add_one]
    iterate 4 refine jo ?_
    refine WS.poA (tb := tb) rfl rfl rfl rfl rfl (by simp only [List.drop_zero, List.drop_succ_cons, List.take_succ_cons, List.take_zero, rwPl, rwRn, rwVw]; exact rfl) ?_
    refine jo ?_
    refine jc [3] S (by simp [jOb]) (by simp [jEb, jOb, jMb, mapL_cellsR, okL_cellsR]) ?_; rintro _ _ ⟨rfl, rfl⟩ -; simp only [jPg, jMb, ll, Nat.reduceAdd, Nat.reduceLT, Nat.zero_add, if_true, if_false, Nat.reduceSub, reduceIte, mapL_cellsR, Nat.lt_irrefl, Nat.not_lt_zero, Nat.zero_lt_succ, Nat.lt_add_one]
    iterate 2 refine jo ?_
    refine je ?_
    refine WS.pret rfl ⟨.inr rfl, _, rfl, ?_⟩
    exact ⟨_, rfl, [0,1,2,3], asN s, .b true, ⟨rfl, rfl, (by simp [jVb, jOb, jMb, mapL_cellsR, okL_cellsR, asN, tsR, trR, arR]), rfl⟩, rfl, trivial, rfl, rfl⟩
theorem whole_none {n : Nat} {s : TS} (h : TOk n s) (hm : n ≤ 60) (hT : s.T = .lf) : FM Try.prog 20 [.p (some (2,0)), .p (some (1,0)), .sl none 0 0 false] (asN s) (fun v M' => v = .b true ∧ M' = asN s) := by
  have A := all_lf hT
  have V := views_lf hT
  have hn0 := n_lf hT
  have L := tlen_walk s.ps s.fr s.n s.T.id s.n
  have R := troot_walk s.ps s.fr s.n s.T.id s.n
  have Lv := ar_liveR s.ps s.fr s.n
  simp only [hn0] at L R Lv
  refine FM.pbodyV (tb := tb) (fn := Try.f20) rfl rfl ?_
  simp only [argS, Nat.reduceAdd, asN, tsR, trR, arR, List.length_cons, List.length_nil, List.cons_append, List.nil_append, hn0]
  refine jq ?_
  refine jg ?_
  refine jo ?_
  refine je ?_
  refine jq ?_
  refine jg ?_
  refine jo ?_
  refine jc [0,1,2] A (by simp [jOb, tsR, trR, arR, hn0]) (by simp [jEb, jOb, jMb, mapL_cellsR, okL_cellsR, tsR, trR, arR, hn0]) ?_; rintro _ _ ⟨rfl, rfl⟩ -; simp only [jPg, jMb, ll, Nat.reduceAdd, Nat.reduceLT, Nat.zero_add, if_true, if_false, Nat.reduceSub, reduceIte, mapL_cellsR, Nat.lt_irrefl, Nat.not_lt_zero, Nat.zero_lt_succ, Nat.lt_add_one, tsR, trR, arR, hn0]
  refine jo ?_
  refine je ?_
  refine jq ?_
  refine jg ?_
  refine jo ?_
  refine jc [0,1,2] V (by simp [jOb, tsR, trR, arR, hn0]) (by simp [jEb, jOb, jMb, mapL_cellsR, okL_cellsR, tsR, trR, arR, hn0]) ?_; rintro _ _ ⟨rfl, rfl⟩ -; simp only [jPg, jMb, ll, Nat.reduceAdd, Nat.reduceLT, Nat.zero_add, if_true, if_false, Nat.reduceSub, reduceIte, mapL_cellsR, Nat.lt_irrefl, Nat.not_lt_zero, Nat.zero_lt_succ, Nat.lt_add_one, tsR, trR, arR, hn0]
  refine jo ?_
  refine je ?_
  iterate 2 refine jq ?_
  refine jg ?_
  iterate 4 refine jo ?_
  refine jB false ?_
  iterate 2 refine jo ?_
  refine jc [0,1,2] L (by simp [jOb, tsR, trR, arR, hn0]) (by simp [jEb, jOb, jMb, mapL_cellsR, okL_cellsR, tsR, trR, arR, hn0]) ?_; rintro _ _ ⟨rfl, rfl⟩ -; simp only [jPg, jMb, ll, Nat.reduceAdd, Nat.reduceLT, Nat.zero_add, if_true, if_false, Nat.reduceSub, reduceIte, mapL_cellsR, Nat.lt_irrefl, Nat.not_lt_zero, Nat.zero_lt_succ, Nat.lt_add_one, tsR, trR, arR, hn0]
  iterate 2 refine jo ?_
  refine jB false ?_
  iterate 6 refine jo ?_
  refine jB false ?_
  iterate 3 refine jo ?_
  refine jc [0,1] Lv (by simp [jOb, tsR, trR, arR, hn0]) (by simp [jEb, jOb, jMb, mapL_cellsR, okL_cellsR, tsR, trR, arR, hn0]) ?_; rintro _ _ ⟨rfl, rfl⟩ -; simp only [jPg, jMb, ll, Nat.reduceAdd, Nat.reduceLT, Nat.zero_add, if_true, if_false, Nat.reduceSub, reduceIte, mapL_cellsR, Nat.lt_irrefl, Nat.not_lt_zero, Nat.zero_lt_succ, Nat.lt_add_one, tsR, trR, arR, hn0]
  iterate 2 refine jo ?_
  refine jB false ?_
  refine jo ?_
  refine je ?_
  refine WS.pcondF rfl rfl ?_
  refine WS.pskip rfl ?_
  iterate 2 refine jq ?_
  refine jg ?_
  refine jo ?_
  refine je ?_
  refine WS.pblock rfl ?_
  refine WS.ploopI (σ := Unit) (τ := Unit) (fun _ => [(0, .p (some (2,0))), (2, .sl none 0 0 false), (8, .sl none 0 0 false), (9, .i .i64 0)]) (fun _ => asN s) (fun _ => True) (fun _ => 0)
    (fun _ => [(0, .p (some (2,0))), (8, .sl none 0 0 false)]) (fun _ => asN s) (fun _ => True) 0 [0,1,2,3] () rfl trivial (jSb (by simp [jVb, jOb, jMb, mapL_cellsR, okL_cellsR, asN, tsR, trR, arR, hn0]) (by simp only [jSl, jOb, jMb, Nat.reduceAdd, Nat.reduceLT, asN, tsR, trR, arR, hn0] <;> exact jClo)) rfl ?_ ?_
  · rintro _ -
    simp only [asN, tsR, trR, arR, List.cons_append, List.nil_append]
    iterate 2 refine jq ?_
    refine jg ?_
    iterate 3 refine jo ?_
    refine jB false ?_
    refine je ?_
    refine WS.pcondF rfl rfl ?_
    refine WS.pout rfl rfl ?_
    exact ⟨rfl, (), trivial, (jSn [0,1,2,3] (by simp [jVb, jOb, jMb, mapL_cellsR, okL_cellsR, asN, tsR, trR, arR]) (by simp only [jSl, jOb, jMb, Nat.reduceAdd, Nat.reduceLT, asN, tsR, trR, arR] <;> exact jClo))⟩
  · rintro _ -
    simp only [hT, id_lf] at R
    simp only [asN, tsR, trR, arR, List.cons_append, List.nil_append, hn0, hT, id_lf]
    iterate 2 refine jq ?_
    refine jg ?_
    iterate 2 refine jo ?_
    refine jB true ?_
    refine je ?_
    refine WS.pcondT rfl rfl ?_
    refine jq ?_
    refine jg ?_
    refine jo ?_
    refine jc [0,1,2] R (by simp [jOb, trR, arR]) (by simp [jEb, jOb, jMb, mapL_cellsR, okL_cellsR, trR, arR]) ?_; rintro _ _ ⟨rfl, rfl⟩ -; simp only [jPg, jMb, ll, Nat.reduceAdd, Nat.reduceLT, Nat.zero_add, if_true, if_false, Nat.reduceSub, reduceIte, mapL_cellsR, Nat.lt_irrefl, Nat.not_lt_zero, Nat.zero_lt_succ, Nat.lt_add_one, trR, arR]
    refine jB true ?_
    refine jo ?_
    refine je ?_
    refine WS.pret rfl ⟨.inr rfl, _, rfl, ?_⟩
    exact ⟨_, rfl, [0,1,2,3], asN s, .b true, ⟨rfl, rfl, (by simp [jVb, jOb, jMb, mapL_cellsR, okL_cellsR, asN, tsR, trR, arR, hn0, hT, id_lf]), rfl⟩, rfl, trivial, rfl, by simp [asN, tsR, trR, arR, hn0, hT, id_lf]⟩
theorem asked_some {n : Nat} {s : TS} (k : Int) (h : TOk n s) (hm : n ≤ 60) (hT : s.T = .lf) : FM Try.prog 19 [.p (some (2,0)), .sl (some (3,0)) 0 0 false, .i .i64 k] (asN s) (fun v M' => v = .b true ∧ M' = asN s) := by
  have F1 := findR_walk k h (by omega) none (by rw [runs_lf hT]; rfl)
  have F2 := floorR_walk k h (by omega) none (by rw [runs_lf hT]; rfl)
  have F3 := ceilR_walk k h (by omega) none (by rw [runs_lf hT]; rfl)
  have A := at_some k
  have S := same_no [] (some (0,0)) 0 0 false (-1) (by omega) (.inr rfl)
  refine FM.pbodyV (tb := tb) (fn := Try.f19) rfl rfl ?_
  simp only [argS, Nat.reduceAdd, asN, tsR, trR, arR, List.length_cons, List.length_nil, List.cons_append, List.nil_append]
  refine jq ?_
  refine jg ?_
  refine jo ?_
  refine je ?_
  refine jq ?_
  refine jg ?_
  iterate 2 refine jo ?_
  refine jc [0,1,2] F1 (by simp [jOb, tsR, trR, arR, rA, rB, rC]) (by simp [jEb, jOb, jMb, mapL_cellsR, okL_cellsR, tsR, trR, arR, rA, rB, rC]) ?_; rintro _ _ ⟨rfl, rfl⟩ -; simp only [jPg, jMb, ll, Nat.reduceAdd, Nat.reduceLT, Nat.zero_add, if_true, if_false, Nat.reduceSub, reduceIte, mapL_cellsR, Nat.lt_irrefl, Nat.not_lt_zero, Nat.zero_lt_succ, Nat.lt_add_one, tsR, trR, arR, rA, rB, rC]
  iterate 3 refine jo ?_
  refine jn ?_
  refine js ?_
  refine jo ?_
  refine je ?_
  refine jq ?_
  refine jg ?_
  iterate 2 refine jo ?_
  refine jc [0,1,2] F2 (by simp [jOb, tsR, trR, arR, rA, rB, rC]) (by simp [jEb, jOb, jMb, mapL_cellsR, okL_cellsR, tsR, trR, arR, rA, rB, rC]) ?_; rintro _ _ ⟨rfl, rfl⟩ -; simp only [jPg, jMb, ll, Nat.reduceAdd, Nat.reduceLT, Nat.zero_add, if_true, if_false, Nat.reduceSub, reduceIte, mapL_cellsR, Nat.lt_irrefl, Nat.not_lt_zero, Nat.zero_lt_succ, Nat.lt_add_one, tsR, trR, arR, rA, rB, rC]
  iterate 3 refine jo ?_
  refine jn ?_
  refine js ?_
  refine jo ?_
  refine je ?_
  refine jq ?_
  refine jg ?_
  iterate 2 refine jo ?_
  refine jc [0,1,2] F3 (by simp [jOb, tsR, trR, arR, rA, rB, rC]) (by simp [jEb, jOb, jMb, mapL_cellsR, okL_cellsR, tsR, trR, arR, rA, rB, rC]) ?_; rintro _ _ ⟨rfl, rfl⟩ -; simp only [jPg, jMb, ll, Nat.reduceAdd, Nat.reduceLT, Nat.zero_add, if_true, if_false, Nat.reduceSub, reduceIte, mapL_cellsR, Nat.lt_irrefl, Nat.not_lt_zero, Nat.zero_lt_succ, Nat.lt_add_one, tsR, trR, arR, rA, rB, rC]
  iterate 3 refine jo ?_
  refine jn ?_
  refine js ?_
  refine jo ?_
  refine je ?_
  refine jq ?_
  refine jg ?_
  refine jo ?_
  refine je ?_
  refine jq ?_
  refine jg ?_
  refine jo ?_
  refine je ?_
  iterate 2 refine jq ?_
  refine jg ?_
  refine jo ?_
  refine je ?_
  refine WS.pblock rfl ?_
  refine WS.ploopI (σ := Unit) (τ := Unit) (fun _ => [(0, .p (some (2,0))), (1, .sl (some (3,0)) 0 0 false), (2, .i .i64 k), (7, .p (some (4,0))), (8, .b false), (9, .p (some (5,0))), (10, .b false), (11, .p (some (6,0))), (12, .b false), (13, .i .i64 (-1)), (14, .i .i64 (-1)), (15, .i .i64 0)])
    (fun _ => asN s ++ [rBz, rBz, rBz]) (fun _ => True) (fun _ => 0)
    (fun _ => [(1, .sl (some (3,0)) 0 0 false), (2, .i .i64 k), (7, .p (some (4,0))), (8, .b false), (9, .p (some (5,0))), (10, .b false), (11, .p (some (6,0))), (12, .b false), (13, .i .i64 (-1)), (14, .i .i64 (-1))]) (fun _ => asN s ++ [rBz, rBz, rBz]) (fun _ => True) 0 [0,1,2,3,4,5,6] () rfl trivial (jSb (by simp [jVb, jOb, jMb, mapL_cellsR, okL_cellsR, asN, tsR, trR, arR, rBz]) (by simp only [jSl, jOb, jMb, Nat.reduceAdd, Nat.reduceLT, asN, tsR, trR, arR, rBz] <;> exact jClo)) rfl ?_ ?_
  · rintro _ -
    simp only [asN, tsR, trR, arR, rBz, List.cons_append, List.nil_append]
    iterate 2 refine jq ?_
    refine jg ?_
    iterate 3 refine jo ?_
    refine jB false ?_
    refine je ?_
    refine WS.pcondF rfl rfl ?_
    refine WS.pout rfl rfl ?_
    exact ⟨rfl, (), trivial, (jSn [0,1,2,3,4,5,6] (by simp [jVb, jOb, jMb, mapL_cellsR, okL_cellsR, asN, tsR, trR, arR, rBz]) (by simp only [jSl, jOb, jMb, Nat.reduceAdd, Nat.reduceLT, asN, tsR, trR, arR, rBz] <;> exact jClo))⟩
  · rintro _ -
    simp only [asN, tsR, trR, arR, rBz, List.cons_append, List.nil_append]
    refine jq ?_
    refine jg ?_
    iterate 2 refine jo ?_
    refine jc [3] A (by simp [jOb]) (by simp [jEb, jOb, jMb, mapL_cellsR, okL_cellsR]) ?_; rintro _ _ ⟨rfl, rfl⟩ -; simp only [jPg, jMb, ll, Nat.reduceAdd, Nat.reduceLT, Nat.zero_add, if_true, if_false, Nat.reduceSub, reduceIte, mapL_cellsR, Nat.lt_irrefl, Nat.not_lt_zero, Nat.zero_lt_succ, Nat.lt_add_one]
    refine jo ?_
    refine je ?_
    refine jq ?_
    refine jg ?_
    iterate 2 refine jo ?_
    refine WS.poA (tb := tb) rfl rfl rfl rfl rfl (by simp only [List.drop_zero, List.drop_succ_cons, List.take_succ_cons, List.take_zero, rwPl, rwRn, rwVw]; exact rfl) ?_
    refine jo ?_
    refine jc [3] S (by simp [jOb]) (by simp [jEb, jOb, jMb, mapL_cellsR, okL_cellsR]) ?_; rintro _ _ ⟨rfl, rfl⟩ -; simp only [jPg, jMb, ll, Nat.reduceAdd, Nat.reduceLT, Nat.zero_add, if_true, if_false, Nat.reduceSub, reduceIte, mapL_cellsR, Nat.lt_irrefl, Nat.not_lt_zero, Nat.zero_lt_succ, Nat.lt_add_one]
    iterate 3 refine jo ?_
    refine WS.poA (tb := tb) rfl rfl rfl rfl rfl (by simp only [List.drop_zero, List.drop_succ_cons, List.take_succ_cons, List.take_zero, rwPl, rwRn, rwVw]; exact rfl) ?_
    refine jo ?_
    refine jc [3] S (by simp [jOb]) (by simp [jEb, jOb, jMb, mapL_cellsR, okL_cellsR]) ?_; rintro _ _ ⟨rfl, rfl⟩ -; simp only [jPg, jMb, ll, Nat.reduceAdd, Nat.reduceLT, Nat.zero_add, if_true, if_false, Nat.reduceSub, reduceIte, mapL_cellsR, Nat.lt_irrefl, Nat.not_lt_zero, Nat.zero_lt_succ, Nat.lt_add_one]
    iterate 4 refine jo ?_
    refine WS.poA (tb := tb) rfl rfl rfl rfl rfl (by simp only [List.drop_zero, List.drop_succ_cons, List.take_succ_cons, List.take_zero, rwPl, rwRn, rwVw]; exact rfl) ?_
    refine jo ?_
    refine jc [3] S (by simp [jOb]) (by simp [jEb, jOb, jMb, mapL_cellsR, okL_cellsR]) ?_; rintro _ _ ⟨rfl, rfl⟩ -; simp only [jPg, jMb, ll, Nat.reduceAdd, Nat.reduceLT, Nat.zero_add, if_true, if_false, Nat.reduceSub, reduceIte, mapL_cellsR, Nat.lt_irrefl, Nat.not_lt_zero, Nat.zero_lt_succ, Nat.lt_add_one]
    iterate 2 refine jo ?_
    refine je ?_
    refine WS.pret rfl ⟨.inr rfl, _, rfl, ?_⟩
    exact ⟨_, rfl, [0,1,2,3], asN s, .b true, ⟨rfl, rfl, (by simp [jVb, jOb, jMb, mapL_cellsR, okL_cellsR, asN, tsR, trR, arR]), rfl⟩, rfl, trivial, rfl, rfl⟩
theorem whole_some {n : Nat} {s : TS} (h : TOk n s) (hm : n ≤ 60) (hT : s.T = .lf) : FM Try.prog 20 [.p (some (2,0)), .p (some (1,0)), .sl (some (3,0)) 0 0 false] (asN s) (fun v M' => v = .b true ∧ M' = asN s) := by
  have A := all_lf hT
  have V := views_lf hT
  have hn0 := n_lf hT
  have L := tlen_walk s.ps s.fr s.n s.T.id s.n
  have R := troot_walk s.ps s.fr s.n s.T.id s.n
  have Lv := ar_liveR s.ps s.fr s.n
  simp only [hn0] at L R Lv
  refine FM.pbodyV (tb := tb) (fn := Try.f20) rfl rfl ?_
  simp only [argS, Nat.reduceAdd, asN, tsR, trR, arR, List.length_cons, List.length_nil, List.cons_append, List.nil_append, hn0]
  refine jq ?_
  refine jg ?_
  refine jo ?_
  refine je ?_
  refine jq ?_
  refine jg ?_
  refine jo ?_
  refine jc [0,1,2] A (by simp [jOb, tsR, trR, arR, hn0]) (by simp [jEb, jOb, jMb, mapL_cellsR, okL_cellsR, tsR, trR, arR, hn0]) ?_; rintro _ _ ⟨rfl, rfl⟩ -; simp only [jPg, jMb, ll, Nat.reduceAdd, Nat.reduceLT, Nat.zero_add, if_true, if_false, Nat.reduceSub, reduceIte, mapL_cellsR, Nat.lt_irrefl, Nat.not_lt_zero, Nat.zero_lt_succ, Nat.lt_add_one, tsR, trR, arR, hn0]
  refine jo ?_
  refine je ?_
  refine jq ?_
  refine jg ?_
  refine jo ?_
  refine jc [0,1,2] V (by simp [jOb, tsR, trR, arR, hn0]) (by simp [jEb, jOb, jMb, mapL_cellsR, okL_cellsR, tsR, trR, arR, hn0]) ?_; rintro _ _ ⟨rfl, rfl⟩ -; simp only [jPg, jMb, ll, Nat.reduceAdd, Nat.reduceLT, Nat.zero_add, if_true, if_false, Nat.reduceSub, reduceIte, mapL_cellsR, Nat.lt_irrefl, Nat.not_lt_zero, Nat.zero_lt_succ, Nat.lt_add_one, tsR, trR, arR, hn0]
  refine jo ?_
  refine je ?_
  iterate 2 refine jq ?_
  refine jg ?_
  iterate 4 refine jo ?_
  refine jB false ?_
  iterate 2 refine jo ?_
  refine jc [0,1,2] L (by simp [jOb, tsR, trR, arR, hn0]) (by simp [jEb, jOb, jMb, mapL_cellsR, okL_cellsR, tsR, trR, arR, hn0]) ?_; rintro _ _ ⟨rfl, rfl⟩ -; simp only [jPg, jMb, ll, Nat.reduceAdd, Nat.reduceLT, Nat.zero_add, if_true, if_false, Nat.reduceSub, reduceIte, mapL_cellsR, Nat.lt_irrefl, Nat.not_lt_zero, Nat.zero_lt_succ, Nat.lt_add_one, tsR, trR, arR, hn0]
  iterate 2 refine jo ?_
  refine jB false ?_
  iterate 6 refine jo ?_
  refine jB false ?_
  iterate 3 refine jo ?_
  refine jc [0,1] Lv (by simp [jOb, tsR, trR, arR, hn0]) (by simp [jEb, jOb, jMb, mapL_cellsR, okL_cellsR, tsR, trR, arR, hn0]) ?_; rintro _ _ ⟨rfl, rfl⟩ -; simp only [jPg, jMb, ll, Nat.reduceAdd, Nat.reduceLT, Nat.zero_add, if_true, if_false, Nat.reduceSub, reduceIte, mapL_cellsR, Nat.lt_irrefl, Nat.not_lt_zero, Nat.zero_lt_succ, Nat.lt_add_one, tsR, trR, arR, hn0]
  iterate 2 refine jo ?_
  refine jB false ?_
  refine jo ?_
  refine je ?_
  refine WS.pcondF rfl rfl ?_
  refine WS.pskip rfl ?_
  iterate 2 refine jq ?_
  refine jg ?_
  refine jo ?_
  refine je ?_
  refine WS.pblock rfl ?_
  refine WS.ploopI (σ := Unit) (τ := Unit) (fun _ => [(0, .p (some (2,0))), (2, .sl (some (3,0)) 0 0 false), (8, .sl none 0 0 false), (9, .i .i64 0)]) (fun _ => asN s) (fun _ => True) (fun _ => 0)
    (fun _ => [(0, .p (some (2,0))), (8, .sl none 0 0 false)]) (fun _ => asN s) (fun _ => True) 0 [0,1,2,3] () rfl trivial (jSb (by simp [jVb, jOb, jMb, mapL_cellsR, okL_cellsR, asN, tsR, trR, arR, hn0]) (by simp only [jSl, jOb, jMb, Nat.reduceAdd, Nat.reduceLT, asN, tsR, trR, arR, hn0] <;> exact jClo)) rfl ?_ ?_
  · rintro _ -
    simp only [asN, tsR, trR, arR, List.cons_append, List.nil_append]
    iterate 2 refine jq ?_
    refine jg ?_
    iterate 3 refine jo ?_
    refine jB false ?_
    refine je ?_
    refine WS.pcondF rfl rfl ?_
    refine WS.pout rfl rfl ?_
    exact ⟨rfl, (), trivial, (jSn [0,1,2,3] (by simp [jVb, jOb, jMb, mapL_cellsR, okL_cellsR, asN, tsR, trR, arR]) (by simp only [jSl, jOb, jMb, Nat.reduceAdd, Nat.reduceLT, asN, tsR, trR, arR] <;> exact jClo))⟩
  · rintro _ -
    simp only [hT, id_lf] at R
    simp only [asN, tsR, trR, arR, List.cons_append, List.nil_append, hn0, hT, id_lf]
    iterate 2 refine jq ?_
    refine jg ?_
    iterate 2 refine jo ?_
    refine jB true ?_
    refine je ?_
    refine WS.pcondT rfl rfl ?_
    refine jq ?_
    refine jg ?_
    refine jo ?_
    refine jc [0,1,2] R (by simp [jOb, trR, arR]) (by simp [jEb, jOb, jMb, mapL_cellsR, okL_cellsR, trR, arR]) ?_; rintro _ _ ⟨rfl, rfl⟩ -; simp only [jPg, jMb, ll, Nat.reduceAdd, Nat.reduceLT, Nat.zero_add, if_true, if_false, Nat.reduceSub, reduceIte, mapL_cellsR, Nat.lt_irrefl, Nat.not_lt_zero, Nat.zero_lt_succ, Nat.lt_add_one, trR, arR]
    refine jB true ?_
    refine jo ?_
    refine je ?_
    refine WS.pret rfl ⟨.inr rfl, _, rfl, ?_⟩
    exact ⟨_, rfl, [0,1,2,3], asN s, .b true, ⟨rfl, rfl, (by simp [jVb, jOb, jMb, mapL_cellsR, okL_cellsR, asN, tsR, trR, arR, hn0, hT, id_lf]), rfl⟩, rfl, trivial, rfl, by simp [asN, tsR, trR, arR, hn0, hT, id_lf]⟩
end Go.Proofs.Ytpogfelbimcglaa.Am

