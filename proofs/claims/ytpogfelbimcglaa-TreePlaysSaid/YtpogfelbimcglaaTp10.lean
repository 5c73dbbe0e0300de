/- Functions of the tree and of the law TreePlays, walked. Conditions: those of each theorem. -/
import Derived.Test.YtpogfelbimcglaaTp9
namespace Go.Proofs.Ytpogfelbimcglaa.Am
open Go.Proofs
set_option maxRecDepth 1000000
set_option maxHeartbeats 4000000
set_option linter.unusedSimpArgs false
set_option linter.unusedVariables false
theorem pl_insok_none (size : Nat) (l : List Act) (c i : Nat) (ask : Int) (s : TS) (op lba len phys : Int) (H : TOk size s) (hl : l.length ≤ 120) (h1 : 1 ≤ size) (h2 : size ≤ 60) (hx : l[i]? = some ⟨op, lba, len, phys⟩) (ho : op = 0) (hg : getL lba s.T.ino = none) (hn : s.n < size) (hT : s.T = .lf) :
    WS Try.prog (frameN Try.f4 3) 1 [.c (k1 (k1 (k2 (k1 (k2 (k2 (k2 (k2 (k2 (k2 (k2 (kb Try.f4))))))))))))] (slt (SSp size l c ask (i, s, false))) (mem 0 (MMp l (i, s, false))) (PostP size l c ask (i, s, false)) := by
  have hi : i < l.length := (List.getElem?_eq_some_iff.1 hx).1
  have hle := H.le
  have hL := H.len
  subst ho
  have D := insert_ok len phys H (by omega) hn hg
  obtain ⟨H', hn'⟩ := insS_ok (b := len) (c := phys) H hn hg
  have hR := runs_insS (a := lba) (b := len) (c := phys) H
  have A1 := asked_walk true lba H' h2 (by omega)
  have A2 := asked_walk true ask H' h2 (by omega)
  have B := whole_walk true H' h2 (by omega)
  have hn0 := n_lf hT
  have hr0 := runs_lf hT
  rw [hr0] at hR
  simp only [insR] at hR
  have K := at_none lba
  have U := put_none ⟨lba, len, phys⟩
  have e1 : (insS s lba len phys).n = 1 := by omega
  simp only [asM, hR, e1] at A1 A2 B
  simp only [rV] at U
  generalize insS s lba len phys = u at *
  simp only [SSp, MMp, MP, wV, bW, hr0]
  iterate 2 refine jq ?_
  refine jg ?_
  iterate 3 refine jo ?_
  refine jDT ?_
  refine je ?_
  refine WS.pcondT rfl rfl ?_
  refine WS.pskip rfl ?_
  refine jq ?_
  refine WS.pblock rfl ?_
  refine jq ?_
  refine jg ?_
  iterate 2 refine jo ?_
  refine jI ?_
  refine WS.poA (tb := tb) rfl rfl rfl rfl (step_R rfl (evR_loads rfl rfl rfl rfl rfl (by exact (cellsR_part0 (R := rwAct) hx (by exact Nat.le_of_ble_eq_true rfl))) (by exact rfl))) (by simp only [List.drop_zero, List.drop_succ_cons, List.take_succ_cons, List.take_zero, rwPl, rwRn, rwVw, rwAct]; exact rfl) ?_
  refine jn ?_
  refine js ?_
  refine je ?_
  refine jq ?_
  refine jg ?_
  refine jP ?_
  refine jo ?_
  refine jP ?_
  refine jo ?_
  refine jP ?_
  refine jo ?_
  refine WS.poA (tb := tb) rfl rfl rfl rfl rfl (by simp only [vcells, setL, ll, nl, nz, Nat.reduceAdd, Nat.reduceMul, Int.reduceToNat]; exact rfl) ?_
  refine jn ?_
  refine js ?_
  refine je ?_
  refine jq ?_
  refine jg ?_
  refine jo ?_
  refine jP ?_
  refine jo ?_
  refine jc [] K (by simp [jOb, tsM, trM, arM, tsR, trR, arR, e1]) (by simp [jEb, jOb, jMb, mapL_cellsR, okL_cellsR, tsM, trM, arM, tsR, trR, arR, e1]) ?_; rintro _ _ ⟨rfl, rfl⟩ -; simp only [jPg, jMb, ll, Nat.reduceAdd, Nat.reduceLT, Nat.zero_add, if_true, if_false, Nat.reduceSub, reduceIte, mapL_cellsR, Nat.lt_irrefl, Nat.not_lt_zero, Nat.zero_lt_succ, Nat.lt_add_one, tsM, trM, arM, tsR, trR, arR, e1]
  refine jo ?_
  refine je ?_
  iterate 2 refine jq ?_
  refine jg ?_
  refine jP ?_
  refine jo ?_
  refine je ?_
  refine WS.pblock rfl ?_
  refine jq ?_
  refine jg ?_
  refine jB true ?_
  refine jo ?_
  refine je ?_
  refine WS.pcondT rfl rfl ?_
  refine jq ?_
  refine jg ?_
  refine jo ?_
  refine WS.poA (tb := tb) rfl rfl rfl rfl rfl (by simp only [List.drop_zero, List.drop_succ_cons, List.take_succ_cons, List.take_zero, rwPl, rwRn, rwVw, rwAct]; exact rfl) ?_
  refine jc [1,2,3] D (by simp [jOb, tsM, trM, arM, tsR, trR, arR, e1]) (by simp [jEb, jOb, jMb, mapL_cellsR, okL_cellsR, tsM, trM, arM, tsR, trR, arR, e1]) ?_; rintro _ _ ⟨rfl, rfl⟩ -; simp only [jPg, jMb, ll, Nat.reduceAdd, Nat.reduceLT, Nat.zero_add, if_true, if_false, Nat.reduceSub, reduceIte, mapL_cellsR, Nat.lt_irrefl, Nat.not_lt_zero, Nat.zero_lt_succ, Nat.lt_add_one, tsM, trM, arM, tsR, trR, arR, e1]
  refine jo ?_
  refine je ?_
  iterate 2 refine jq ?_
  refine jg ?_
  refine jo ?_
  refine jB false ?_
  refine jo ?_
  iterate 2 refine jN ?_
  iterate 3 refine jo ?_
  refine jB true ?_
  iterate 4 refine jo ?_
  refine jDF ?_
  iterate 2 refine jo ?_
  iterate 2 refine jN ?_
  iterate 4 refine jo ?_
  refine jB true ?_
  iterate 4 refine jo ?_
  refine jDT ?_
  iterate 3 refine jo ?_
  refine jB false ?_
  iterate 2 refine jo ?_
  refine je ?_
  refine WS.pcondF rfl rfl ?_
  refine WS.pskip rfl ?_
  refine jq ?_
  refine jg ?_
  refine jo ?_
  refine jB true ?_
  refine je ?_
  refine WS.pcondT rfl rfl ?_
  refine jg ?_
  refine jo ?_
  refine WS.poA (tb := tb) rfl rfl rfl rfl rfl (by simp only [List.drop_zero, List.drop_succ_cons, List.take_succ_cons, List.take_zero, rwPl, rwRn, rwVw, rwAct]; exact rfl) ?_
  refine jc [] U (by simp [jOb, tsM, trM, arM, tsR, trR, arR, e1]) (by simp [jEb, jOb, jMb, mapL_cellsR, okL_cellsR, tsM, trM, arM, tsR, trR, arR, e1]) ?_; rintro _ _ ⟨rfl, rfl⟩ -; simp only [jPg, jMb, ll, Nat.reduceAdd, Nat.reduceLT, Nat.zero_add, if_true, if_false, Nat.reduceSub, reduceIte, mapL_cellsR, Nat.lt_irrefl, Nat.not_lt_zero, Nat.zero_lt_succ, Nat.lt_add_one, tsM, trM, arM, tsR, trR, arR, e1]
  refine jo ?_
  refine je ?_
  refine jq ?_
  refine jg ?_
  iterate 2 refine jo ?_
  refine jP ?_
  refine jo ?_
  refine jc [1,2,3,7] A1 (by simp [jOb, tsM, trM, arM, tsR, trR, arR, e1]) (by simp [jEb, jOb, jMb, mapL_cellsR, okL_cellsR, tsM, trM, arM, tsR, trR, arR, e1]) ?_; rintro _ _ ⟨rfl, rfl⟩ -; simp only [jPg, jMb, ll, Nat.reduceAdd, Nat.reduceLT, Nat.zero_add, if_true, if_false, Nat.reduceSub, reduceIte, mapL_cellsR, Nat.lt_irrefl, Nat.not_lt_zero, Nat.zero_lt_succ, Nat.lt_add_one, tsM, trM, arM, tsR, trR, arR, e1]
  refine jB false ?_
  iterate 4 refine jo ?_
  refine jc [1,2,3,7] A2 (by simp [jOb, tsM, trM, arM, tsR, trR, arR, e1]) (by simp [jEb, jOb, jMb, mapL_cellsR, okL_cellsR, tsM, trM, arM, tsR, trR, arR, e1]) ?_; rintro _ _ ⟨rfl, rfl⟩ -; simp only [jPg, jMb, ll, Nat.reduceAdd, Nat.reduceLT, Nat.zero_add, if_true, if_false, Nat.reduceSub, reduceIte, mapL_cellsR, Nat.lt_irrefl, Nat.not_lt_zero, Nat.zero_lt_succ, Nat.lt_add_one, tsM, trM, arM, tsR, trR, arR, e1]
  refine jB false ?_
  iterate 5 refine jo ?_
  refine jc [1,2,3,7] B (by simp [jOb, tsM, trM, arM, tsR, trR, arR, e1]) (by simp [jEb, jOb, jMb, mapL_cellsR, okL_cellsR, tsM, trM, arM, tsR, trR, arR, e1]) ?_; rintro _ _ ⟨rfl, rfl⟩ -; simp only [jPg, jMb, ll, Nat.reduceAdd, Nat.reduceLT, Nat.zero_add, if_true, if_false, Nat.reduceSub, reduceIte, mapL_cellsR, Nat.lt_irrefl, Nat.not_lt_zero, Nat.zero_lt_succ, Nat.lt_add_one, tsM, trM, arM, tsR, trR, arR, e1]
  refine jB false ?_
  refine jo ?_
  refine je ?_
  refine WS.pcondF rfl rfl ?_
  refine WS.pskip rfl ?_
  refine jg ?_
  refine jo ?_
  refine jW ?_
  refine jo ?_
  refine je ?_
  refine WS.nil ?_
  exact ⟨(i + 1, u, false), ⟨hi, H'⟩, by simp only; omega, (jSn [0,1,2,3,7] (by simp [jVb, jOb, jMb, mapL_cellsR, okL_cellsR, SSp, MMp, MP, wV, bW, hR, e1]) (by simp only [jSl, jOb, jMb, Nat.reduceAdd, Nat.reduceLT, SSp, MMp, MP, wV, bW, hR, e1] <;> exact jClo))⟩
theorem pl_insok_some (size : Nat) (l : List Act) (c i : Nat) (ask : Int) (s : TS) (op lba len phys : Int) (H : TOk size s) (hl : l.length ≤ 120) (h1 : 1 ≤ size) (h2 : size ≤ 60) (hx : l[i]? = some ⟨op, lba, len, phys⟩) (ho : op = 0) (hg : getL lba s.T.ino = none) (hn : s.n < size) (hT : s.T = .lf) :
    WS Try.prog (frameN Try.f4 3) 1 [.c (k1 (k1 (k2 (k1 (k2 (k2 (k2 (k2 (k2 (k2 (k2 (kb Try.f4))))))))))))] (slt (SSp size l c ask (i, s, true))) (mem 0 (MMp l (i, s, true))) (PostP size l c ask (i, s, true)) := by
  have hi : i < l.length := (List.getElem?_eq_some_iff.1 hx).1
  have hle := H.le
  have hL := H.len
  subst ho
  have D := insert_ok len phys H (by omega) hn hg
  obtain ⟨H', hn'⟩ := insS_ok (b := len) (c := phys) H hn hg
  have hR := runs_insS (a := lba) (b := len) (c := phys) H
  have A1 := asked_walk true lba H' h2 (by omega)
  have A2 := asked_walk true ask H' h2 (by omega)
  have B := whole_walk true H' h2 (by omega)
  have hn0 := n_lf hT
  have hr0 := runs_lf hT
  rw [hr0] at hR
  simp only [insR] at hR
  have K := at_some lba
  have U := put_some ⟨lba, len, phys⟩
  have e1 : (insS s lba len phys).n = 1 := by omega
  simp only [asM, hR, e1] at A1 A2 B
  simp only [rV] at U
  generalize insS s lba len phys = u at *
  simp only [SSp, MMp, MP, wV, bW, hr0]
  iterate 2 refine jq ?_
  refine jg ?_
  iterate 3 refine jo ?_
  refine jDT ?_
  refine je ?_
  refine WS.pcondT rfl rfl ?_
  refine WS.pskip rfl ?_
  refine jq ?_
  refine WS.pblock rfl ?_
  refine jq ?_
  refine jg ?_
  iterate 2 refine jo ?_
  refine jI ?_
  refine WS.poA (tb := tb) rfl rfl rfl rfl (step_R rfl (evR_loads rfl rfl rfl rfl rfl (by exact (cellsR_part0 (R := rwAct) hx (by exact Nat.le_of_ble_eq_true rfl))) (by exact rfl))) (by simp only [List.drop_zero, List.drop_succ_cons, List.take_succ_cons, List.take_zero, rwPl, rwRn, rwVw, rwAct]; exact rfl) ?_
  refine jn ?_
  refine js ?_
  refine je ?_
  refine jq ?_
  refine jg ?_
  refine jP ?_
  refine jo ?_
  refine jP ?_
  refine jo ?_
  refine jP ?_
  refine jo ?_
  refine WS.poA (tb := tb) rfl rfl rfl rfl rfl (by simp only [vcells, setL, ll, nl, nz, Nat.reduceAdd, Nat.reduceMul, Int.reduceToNat]; exact rfl) ?_
  refine jn ?_
  refine js ?_
  refine je ?_
  refine jq ?_
  refine jg ?_
  refine jo ?_
  refine jP ?_
  refine jo ?_
  refine jc [4] K (by simp [jOb, tsM, trM, arM, tsR, trR, arR, e1]) (by simp [jEb, jOb, jMb, mapL_cellsR, okL_cellsR, tsM, trM, arM, tsR, trR, arR, e1]) ?_; rintro _ _ ⟨rfl, rfl⟩ -; simp only [jPg, jMb, ll, Nat.reduceAdd, Nat.reduceLT, Nat.zero_add, if_true, if_false, Nat.reduceSub, reduceIte, mapL_cellsR, Nat.lt_irrefl, Nat.not_lt_zero, Nat.zero_lt_succ, Nat.lt_add_one, tsM, trM, arM, tsR, trR, arR, e1]
  refine jo ?_
  refine je ?_
  iterate 2 refine jq ?_
  refine jg ?_
  refine jP ?_
  refine jo ?_
  refine je ?_
  refine WS.pblock rfl ?_
  refine jq ?_
  refine jg ?_
  refine jB true ?_
  refine jo ?_
  refine je ?_
  refine WS.pcondT rfl rfl ?_
  refine jq ?_
  refine jg ?_
  refine jo ?_
  refine WS.poA (tb := tb) rfl rfl rfl rfl rfl (by simp only [List.drop_zero, List.drop_succ_cons, List.take_succ_cons, List.take_zero, rwPl, rwRn, rwVw, rwAct]; exact rfl) ?_
  refine jc [1,2,3] D (by simp [jOb, tsM, trM, arM, tsR, trR, arR, e1]) (by simp [jEb, jOb, jMb, mapL_cellsR, okL_cellsR, tsM, trM, arM, tsR, trR, arR, e1]) ?_; rintro _ _ ⟨rfl, rfl⟩ -; simp only [jPg, jMb, ll, Nat.reduceAdd, Nat.reduceLT, Nat.zero_add, if_true, if_false, Nat.reduceSub, reduceIte, mapL_cellsR, Nat.lt_irrefl, Nat.not_lt_zero, Nat.zero_lt_succ, Nat.lt_add_one, tsM, trM, arM, tsR, trR, arR, e1]
  refine jo ?_
  refine je ?_
  iterate 2 refine jq ?_
  refine jg ?_
  refine jo ?_
  refine jB false ?_
  refine jo ?_
  iterate 2 refine jN ?_
  iterate 3 refine jo ?_
  refine jB true ?_
  iterate 4 refine jo ?_
  refine jDF ?_
  iterate 2 refine jo ?_
  iterate 2 refine jN ?_
  iterate 4 refine jo ?_
  refine jB true ?_
  iterate 4 refine jo ?_
  refine jDT ?_
  iterate 3 refine jo ?_
  refine jB false ?_
  iterate 2 refine jo ?_
  refine je ?_
  refine WS.pcondF rfl rfl ?_
  refine WS.pskip rfl ?_
  refine jq ?_
  refine jg ?_
  refine jo ?_
  refine jB true ?_
  refine je ?_
  refine WS.pcondT rfl rfl ?_
  refine jg ?_
  refine jo ?_
  refine WS.poA (tb := tb) rfl rfl rfl rfl rfl (by simp only [List.drop_zero, List.drop_succ_cons, List.take_succ_cons, List.take_zero, rwPl, rwRn, rwVw, rwAct]; exact rfl) ?_
  refine jc [4] U (by simp [jOb, tsM, trM, arM, tsR, trR, arR, e1]) (by simp [jEb, jOb, jMb, mapL_cellsR, okL_cellsR, tsM, trM, arM, tsR, trR, arR, e1]) ?_; rintro _ _ ⟨rfl, rfl⟩ -; simp only [jPg, jMb, ll, Nat.reduceAdd, Nat.reduceLT, Nat.zero_add, if_true, if_false, Nat.reduceSub, reduceIte, mapL_cellsR, Nat.lt_irrefl, Nat.not_lt_zero, Nat.zero_lt_succ, Nat.lt_add_one, tsM, trM, arM, tsR, trR, arR, e1]
  refine jo ?_
  refine je ?_
  refine jq ?_
  refine jg ?_
  iterate 2 refine jo ?_
  refine jP ?_
  refine jo ?_
  refine jc [1,2,3,7] A1 (by simp [jOb, tsM, trM, arM, tsR, trR, arR, e1]) (by simp [jEb, jOb, jMb, mapL_cellsR, okL_cellsR, tsM, trM, arM, tsR, trR, arR, e1]) ?_; rintro _ _ ⟨rfl, rfl⟩ -; simp only [jPg, jMb, ll, Nat.reduceAdd, Nat.reduceLT, Nat.zero_add, if_true, if_false, Nat.reduceSub, reduceIte, mapL_cellsR, Nat.lt_irrefl, Nat.not_lt_zero, Nat.zero_lt_succ, Nat.lt_add_one, tsM, trM, arM, tsR, trR, arR, e1]
  refine jB false ?_
  iterate 4 refine jo ?_
  refine jc [1,2,3,7] A2 (by simp [jOb, tsM, trM, arM, tsR, trR, arR, e1]) (by simp [jEb, jOb, jMb, mapL_cellsR, okL_cellsR, tsM, trM, arM, tsR, trR, arR, e1]) ?_; rintro _ _ ⟨rfl, rfl⟩ -; simp only [jPg, jMb, ll, Nat.reduceAdd, Nat.reduceLT, Nat.zero_add, if_true, if_false, Nat.reduceSub, reduceIte, mapL_cellsR, Nat.lt_irrefl, Nat.not_lt_zero, Nat.zero_lt_succ, Nat.lt_add_one, tsM, trM, arM, tsR, trR, arR, e1]
  refine jB false ?_
  iterate 5 refine jo ?_
  refine jc [1,2,3,7] B (by simp [jOb, tsM, trM, arM, tsR, trR, arR, e1]) (by simp [jEb, jOb, jMb, mapL_cellsR, okL_cellsR, tsM, trM, arM, tsR, trR, arR, e1]) ?_; rintro _ _ ⟨rfl, rfl⟩ -; simp only [jPg, jMb, ll, Nat.reduceAdd, Nat.reduceLT, Nat.zero_add, if_true, if_false, Nat.reduceSub, reduceIte, mapL_cellsR, Nat.lt_irrefl, Nat.not_lt_zero, Nat.zero_lt_succ, Nat.lt_add_one, tsM, trM, arM, tsR, trR, arR, e1]
  refine jB false ?_
  refine jo ?_
  refine je ?_
  refine WS.pcondF rfl rfl ?_
  refine WS.pskip rfl ?_
  refine jg ?_
  refine jo ?_
  refine jW ?_
  refine jo ?_
  refine je ?_
  refine WS.nil ?_
  exact ⟨(i + 1, u, false), ⟨hi, H'⟩, by simp only; omega, (jSn [0,1,2,3,7] (by simp [jVb, jOb, jMb, mapL_cellsR, okL_cellsR, SSp, MMp, MP, wV, bW, hR, e1]) (by simp only [jSl, jOb, jMb, Nat.reduceAdd, Nat.reduceLT, SSp, MMp, MP, wV, bW, hR, e1] <;> exact jClo))⟩
theorem pl_insok_row (size : Nat) (l : List Act) (c i : Nat) (ask : Int) (s : TS) (op lba len phys : Int) (b : Bool) (H : TOk size s) (hl : l.length ≤ 120) (h1 : 1 ≤ size) (h2 : size ≤ 60) (hx : l[i]? = some ⟨op, lba, len, phys⟩) (ho : op = 0) (hg : getL lba s.T.ino = none) (hn : s.n < size) (hrow : ∃ x t, runsT s.T = x :: t ∧ t.length + 1 = s.n) :
    WS Try.prog (frameN Try.f4 3) 1 [.c (k1 (k1 (k2 (k1 (k2 (k2 (k2 (k2 (k2 (k2 (k2 (kb Try.f4))))))))))))] (slt (SSp size l c ask (i, s, b))) (mem 0 (MMp l (i, s, b))) (PostP size l c ask (i, s, b)) := by
  have hi : i < l.length := (List.getElem?_eq_some_iff.1 hx).1
  have hle := H.le
  have hL := H.len
  subst ho
  have D := insert_ok len phys H (by omega) hn hg
  obtain ⟨H', hn'⟩ := insS_ok (b := len) (c := phys) H hn hg
  have hR := runs_insS (a := lba) (b := len) (c := phys) H
  have A1 := asked_walk true lba H' h2 (by omega)
  have A2 := asked_walk true ask H' h2 (by omega)
  have B := whole_walk true H' h2 (by omega)
  obtain ⟨x0, t0, hr0, ht0⟩ := hrow
  have K := at_walk (runsT s.T) true lba (by rw [runsT_len]; simp only [TS.n] at hle; omega)
  have U := put_walk (runsT s.T) ⟨lba, len, phys⟩ true (by rw [runsT_len]; simp only [TS.n] at hle; omega)
  have hk : atL lba (runsT s.T) 0 = -1 := atL_no hg
  rw [hk] at K
  rw [runsT_len, show s.T.ids.length = s.n from rfl] at K U
  have hlen := congrArg List.length hR
  rw [insR_len, runsT_len, runsT_len, show s.T.ids.length = s.n from rfl] at hlen
  obtain ⟨y0, v0, hv0⟩ : ∃ y v, insR ⟨lba, len, phys⟩ (runsT s.T) = y :: v := by
    cases hc : insR ⟨lba, len, phys⟩ (runsT s.T) with
    | nil => have := congrArg List.length hc; rw [insR_len] at this; simp at this
    | cons y v => exact ⟨y, v, rfl⟩
  have hvl : v0.length + 1 = s.n + 1 := by have := congrArg List.length hv0; rw [insR_len, runsT_len] at this; simp only [List.length_cons] at this; simp only [TS.n]; omega
  rw [hv0] at hR U
  simp only [asM, hR, hn'] at A1 A2 B
  simp only [roW, hr0, rV] at K U
  generalize insS s lba len phys = u at *
  simp only [SSp, MMp, MP, wV, bW, hr0, ht0]
  iterate 2 refine jq ?_
  refine jg ?_
  iterate 3 refine jo ?_
  refine jDT ?_
  refine je ?_
  refine WS.pcondT rfl rfl ?_
  refine WS.pskip rfl ?_
  refine jq ?_
  refine WS.pblock rfl ?_
  refine jq ?_
  refine jg ?_
  iterate 2 refine jo ?_
  refine jI ?_
  refine WS.poA (tb := tb) rfl rfl rfl rfl (step_R rfl (evR_loads rfl rfl rfl rfl rfl (by exact (cellsR_part0 (R := rwAct) hx (by exact Nat.le_of_ble_eq_true rfl))) (by exact rfl))) (by simp only [List.drop_zero, List.drop_succ_cons, List.take_succ_cons, List.take_zero, rwPl, rwRn, rwVw, rwAct]; exact rfl) ?_
  refine jn ?_
  refine js ?_
  refine je ?_
  refine jq ?_
  refine jg ?_
  refine jP ?_
  refine jo ?_
  refine jP ?_
  refine jo ?_
  refine jP ?_
  refine jo ?_
  refine WS.poA (tb := tb) rfl rfl rfl rfl rfl (by simp only [vcells, setL, ll, nl, nz, Nat.reduceAdd, Nat.reduceMul, Int.reduceToNat]; exact rfl) ?_
  refine jn ?_
  refine js ?_
  refine je ?_
  refine jq ?_
  refine jg ?_
  refine jo ?_
  refine jP ?_
  refine jo ?_
  refine jc [4] K (by simp [jOb, tsM, trM, arM, tsR, trR, arR, hn', ht0]) (by simp [jEb, jOb, jMb, mapL_cellsR, okL_cellsR, tsM, trM, arM, tsR, trR, arR, hn', ht0]) ?_; rintro _ _ ⟨rfl, rfl⟩ -; simp only [jPg, jMb, ll, Nat.reduceAdd, Nat.reduceLT, Nat.zero_add, if_true, if_false, Nat.reduceSub, reduceIte, mapL_cellsR, Nat.lt_irrefl, Nat.not_lt_zero, Nat.zero_lt_succ, Nat.lt_add_one, tsM, trM, arM, tsR, trR, arR, hn', ht0]
  refine jo ?_
  refine je ?_
  iterate 2 refine jq ?_
  refine jg ?_
  refine jP ?_
  refine jo ?_
  refine je ?_
  refine WS.pblock rfl ?_
  refine jq ?_
  refine jg ?_
  refine jB true ?_
  refine jo ?_
  refine je ?_
  refine WS.pcondT rfl rfl ?_
  refine jq ?_
  refine jg ?_
  refine jo ?_
  refine WS.poA (tb := tb) rfl rfl rfl rfl rfl (by simp only [List.drop_zero, List.drop_succ_cons, List.take_succ_cons, List.take_zero, rwPl, rwRn, rwVw, rwAct]; exact rfl) ?_
  refine jc [1,2,3] D (by simp [jOb, tsM, trM, arM, tsR, trR, arR, hn', ht0]) (by simp [jEb, jOb, jMb, mapL_cellsR, okL_cellsR, tsM, trM, arM, tsR, trR, arR, hn', ht0]) ?_; rintro _ _ ⟨rfl, rfl⟩ -; simp only [jPg, jMb, ll, Nat.reduceAdd, Nat.reduceLT, Nat.zero_add, if_true, if_false, Nat.reduceSub, reduceIte, mapL_cellsR, Nat.lt_irrefl, Nat.not_lt_zero, Nat.zero_lt_succ, Nat.lt_add_one, tsM, trM, arM, tsR, trR, arR, hn', ht0]
  refine jo ?_
  refine je ?_
  iterate 2 refine jq ?_
  refine jg ?_
  refine jo ?_
  refine jB false ?_
  refine jo ?_
  iterate 2 refine jN ?_
  iterate 3 refine jo ?_
  refine jB true ?_
  iterate 4 refine jo ?_
  refine jDF ?_
  iterate 2 refine jo ?_
  iterate 2 refine jN ?_
  iterate 4 refine jo ?_
  refine jB true ?_
  iterate 4 refine jo ?_
  refine jDT ?_
  iterate 3 refine jo ?_
  refine jB false ?_
  iterate 2 refine jo ?_
  refine je ?_
  refine WS.pcondF rfl rfl ?_
  refine WS.pskip rfl ?_
  refine jq ?_
  refine jg ?_
  refine jo ?_
  refine jB true ?_
  refine je ?_
  refine WS.pcondT rfl rfl ?_
  refine jg ?_
  refine jo ?_
  refine WS.poA (tb := tb) rfl rfl rfl rfl rfl (by simp only [List.drop_zero, List.drop_succ_cons, List.take_succ_cons, List.take_zero, rwPl, rwRn, rwVw, rwAct]; exact rfl) ?_
  refine jc [4] U (by simp [jOb, tsM, trM, arM, tsR, trR, arR, hn', ht0]) (by simp [jEb, jOb, jMb, mapL_cellsR, okL_cellsR, tsM, trM, arM, tsR, trR, arR, hn', ht0]) ?_; rintro _ _ ⟨rfl, rfl⟩ -; simp only [jPg, jMb, ll, Nat.reduceAdd, Nat.reduceLT, Nat.zero_add, if_true, if_false, Nat.reduceSub, reduceIte, mapL_cellsR, Nat.lt_irrefl, Nat.not_lt_zero, Nat.zero_lt_succ, Nat.lt_add_one, tsM, trM, arM, tsR, trR, arR, hn', ht0]
  refine jo ?_
  refine je ?_
  refine jq ?_
  refine jg ?_
  iterate 2 refine jo ?_
  refine jP ?_
  refine jo ?_
  refine jc [1,2,3,7] A1 (by simp [jOb, tsM, trM, arM, tsR, trR, arR, hn', ht0]) (by simp [jEb, jOb, jMb, mapL_cellsR, okL_cellsR, tsM, trM, arM, tsR, trR, arR, hn', ht0]) ?_; rintro _ _ ⟨rfl, rfl⟩ -; simp only [jPg, jMb, ll, Nat.reduceAdd, Nat.reduceLT, Nat.zero_add, if_true, if_false, Nat.reduceSub, reduceIte, mapL_cellsR, Nat.lt_irrefl, Nat.not_lt_zero, Nat.zero_lt_succ, Nat.lt_add_one, tsM, trM, arM, tsR, trR, arR, hn', ht0]
  refine jB false ?_
  iterate 4 refine jo ?_
  refine jc [1,2,3,7] A2 (by simp [jOb, tsM, trM, arM, tsR, trR, arR, hn', ht0]) (by simp [jEb, jOb, jMb, mapL_cellsR, okL_cellsR, tsM, trM, arM, tsR, trR, arR, hn', ht0]) ?_; rintro _ _ ⟨rfl, rfl⟩ -; simp only [jPg, jMb, ll, Nat.reduceAdd, Nat.reduceLT, Nat.zero_add, if_true, if_false, Nat.reduceSub, reduceIte, mapL_cellsR, Nat.lt_irrefl, Nat.not_lt_zero, Nat.zero_lt_succ, Nat.lt_add_one, tsM, trM, arM, tsR, trR, arR, hn', ht0]
  refine jB false ?_
  iterate 5 refine jo ?_
  refine jc [1,2,3,7] B (by simp [jOb, tsM, trM, arM, tsR, trR, arR, hn', ht0]) (by simp [jEb, jOb, jMb, mapL_cellsR, okL_cellsR, tsM, trM, arM, tsR, trR, arR, hn', ht0]) ?_; rintro _ _ ⟨rfl, rfl⟩ -; simp only [jPg, jMb, ll, Nat.reduceAdd, Nat.reduceLT, Nat.zero_add, if_true, if_false, Nat.reduceSub, reduceIte, mapL_cellsR, Nat.lt_irrefl, Nat.not_lt_zero, Nat.zero_lt_succ, Nat.lt_add_one, tsM, trM, arM, tsR, trR, arR, hn', ht0]
  refine jB false ?_
  refine jo ?_
  refine je ?_
  refine WS.pcondF rfl rfl ?_
  refine WS.pskip rfl ?_
  refine jg ?_
  refine jo ?_
  refine jW ?_
  refine jo ?_
  refine je ?_
  refine WS.nil ?_
  exact ⟨(i + 1, u, b), ⟨hi, H'⟩, by simp only; omega, (jSn [0,1,2,3,7] (by simp [jVb, jOb, jMb, mapL_cellsR, okL_cellsR, SSp, MMp, MP, wV, bW, hR, hvl, hn']) (by simp only [jSl, jOb, jMb, Nat.reduceAdd, Nat.reduceLT, SSp, MMp, MP, wV, bW, hR, hvl, hn'] <;> exact jClo))⟩
end Go.Proofs.Ytpogfelbimcglaa.Am

