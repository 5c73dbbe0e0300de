/- Functions of the tree and of the law TreePlays, walked. Conditions: those of each theorem. -/
import Derived.Test.YtpogfelbimcglaaTp4
import Derived.Test.YtpogfelbimcglaaTp1
import Derived.Test.YtpogfelbimcglaaTs0a
import Derived.Test.YtpogfelbimcglaaTs0v
namespace Go.Proofs.Ytpogfelbimcglaa.Am
open Go.Proofs
set_option maxRecDepth 1000000
set_option maxHeartbeats 4000000
set_option linter.unusedSimpArgs false
set_option linter.unusedVariables false
theorem ar_liveR (ps : List Pl) (fr lv : Int) : FM Try.prog 22 [.p (some (1,0))] (arR ps fr lv) (fun v M' => v = .i .i64 lv ∧ M' = arR ps fr lv) := by
  refine FM.pbody (tb := tb) (fn := Try.f22) rfl rfl ?_
  simp only [argS, Nat.reduceAdd, arR, List.length_cons, List.length_nil]
  refine jq ?_
  refine jg ?_
  refine jo ?_
  refine je ?_
  refine jq ?_
  refine jg ?_
  iterate 2 refine jo ?_
  refine jP ?_
  iterate 2 refine jo ?_
  refine je ?_
  refine WS.pret rfl ⟨.inr rfl, _, rfl, ?_⟩
  exact ⟨_, rfl, rfl, rfl⟩
theorem views_rep {ps : List Pl} : ∀ {T : Tr}, Rep ps T → ∀ v ∈ viewsT T, ∃ (j : Nat) (p : Pl), v.id = j ∧ 0 < j ∧ ps[j]? = some p ∧ p.live = true ∧ p.l = v.l ∧ p.r = v.r ∧ p.h = v.h ∧ p.a = v.a ∧ p.b = v.b ∧ p.c = v.c
  | .lf, _, v, h => by simp [viewsT] at h
  | .nd id l x y z r, ⟨h0, ⟨nx, hp⟩, hl, hr⟩, v, h => by
    simp only [viewsT, List.mem_append, List.mem_cons] at h
    rcases h with h | rfl | h
    · exact views_rep hl v h
    · exact ⟨id, _, rfl, h0, hp, rfl, rfl, rfl, rfl, rfl, rfl, rfl⟩
    · exact views_rep hr v h
theorem views_runs : ∀ T : Tr, (viewsT T).map (fun v => (⟨v.a, v.b, v.c⟩ : Rn)) = runsT T
  | .lf => rfl
  | .nd id l x y z r => by rw [runsT_nd, viewsT, List.map_append, List.map_cons, views_runs l, views_runs r]
theorem views_at {T : Tr} {i : Nat} {x : Rn} {v : Vw} (hv : (viewsT T)[i]? = some v) (hx : (runsT T)[i]? = some x) : v.a = x.a ∧ v.b = x.b ∧ v.c = x.c := by
  rw [← views_runs, List.getElem?_map, hv] at hx
  simp only [Option.map_some, Option.some.injEq] at hx
  subst hx
  exact ⟨rfl, rfl, rfl⟩
theorem whole_walk {n : Nat} {s : TS} (q : Bool) (h : TOk n s) (hm : n ≤ 60) (hne : 0 < s.n) : FM Try.prog 20 [.p (some (2,0)), .p (some (1,0)), .sl (some (3,0)) s.n s.n q] (asM s (runsT s.T)) (fun v M' => v = .b true ∧ M' = asM s (runsT s.T)) := by
  have hl := h.len
  have hle := h.le
  have hT : s.T ≠ .lf := fun e => by rw [TS.n, e, ids_lf] at hne; simp at hne
  have A := all_nd h (by omega) hT
  have V := views_nd h (by omega) hT
  have L := tlen_walk s.ps s.fr s.n s.T.id s.n
  have R := troot_walk s.ps s.fr s.n s.T.id s.n
  have Lv := ar_liveR s.ps s.fr s.n
  have hnid : s.n = s.T.ids.length := rfl
  have H := hangs_walk s.T [] [] true hT h.nd (fun j hj => (h.rep.pos j hj).1) h.avl (by simp only [List.length_nil]; omega)
  simp only [List.nil_append, List.append_nil, List.length_nil, viewsT_len, Nat.zero_add, ← hnid] at H
  have hht := ht_pos s.T hT
  have hrl : (runsT s.T).length = s.n := runsT_len s.T
  have hvl : (viewsT s.T).length = s.n := viewsT_len s.T
  refine FM.pbodyV (tb := tb) (fn := Try.f20) rfl rfl ?_
  simp only [argS, Nat.reduceAdd, asM, tsR, trR, arR, List.length_cons, List.length_nil, List.cons_append, List.nil_append]
  refine jq ?_
  refine jg ?_
  refine jo ?_
  refine je ?_
  refine jq ?_
  refine jg ?_
  refine jo ?_
  refine jc [0,1,2] A (by simp [jOb, tsR, trR, arR]) (by simp [jEb, jOb, jMb, mapL_cellsR, okL_cellsR, tsR, trR, arR]) ?_; rintro _ _ ⟨rfl, rfl⟩ -; simp only [jPg, jMb, ll, Nat.reduceAdd, Nat.reduceLT, Nat.zero_add, if_true, if_false, Nat.reduceSub, reduceIte, mapL_cellsR, Nat.lt_irrefl, Nat.not_lt_zero, Nat.zero_lt_succ, Nat.lt_add_one, tsR, trR, arR]
  refine jo ?_
  refine je ?_
  refine jq ?_
  refine jg ?_
  refine jo ?_
  refine jc [0,1,2] V (by simp [jOb, tsR, trR, arR]) (by simp [jEb, jOb, jMb, mapL_cellsR, okL_cellsR, tsR, trR, arR]) ?_; rintro _ _ ⟨rfl, rfl⟩ -; simp only [jPg, jMb, ll, Nat.reduceAdd, Nat.reduceLT, Nat.zero_add, if_true, if_false, Nat.reduceSub, reduceIte, mapL_cellsR, Nat.lt_irrefl, Nat.not_lt_zero, Nat.zero_lt_succ, Nat.lt_add_one, tsR, trR, arR]
  refine jo ?_
  refine je ?_
  iterate 2 refine jq ?_
  refine jg ?_
  iterate 4 refine jo ?_
  refine jNF ?_
  iterate 2 refine jo ?_
  refine jc [0,1,2] L (by simp [jOb, tsR, trR, arR]) (by simp [jEb, jOb, jMb, mapL_cellsR, okL_cellsR, tsR, trR, arR]) ?_; rintro _ _ ⟨rfl, rfl⟩ -; simp only [jPg, jMb, ll, Nat.reduceAdd, Nat.reduceLT, Nat.zero_add, if_true, if_false, Nat.reduceSub, reduceIte, mapL_cellsR, Nat.lt_irrefl, Nat.not_lt_zero, Nat.zero_lt_succ, Nat.lt_add_one, tsR, trR, arR]
  iterate 2 refine jo ?_
  refine jNF ?_
  iterate 6 refine jo ?_
  refine jNF ?_
  iterate 3 refine jo ?_
  refine jc [0,1] Lv (by simp [jOb, tsR, trR, arR]) (by simp [jEb, jOb, jMb, mapL_cellsR, okL_cellsR, tsR, trR, arR]) ?_; rintro _ _ ⟨rfl, rfl⟩ -; simp only [jPg, jMb, ll, Nat.reduceAdd, Nat.reduceLT, Nat.zero_add, if_true, if_false, Nat.reduceSub, reduceIte, mapL_cellsR, Nat.lt_irrefl, Nat.not_lt_zero, Nat.zero_lt_succ, Nat.lt_add_one, tsR, trR, arR]
  iterate 2 refine jo ?_
  refine jNF ?_
  refine jo ?_
  refine je ?_
  refine WS.pcondF rfl rfl ?_
  refine WS.pskip rfl ?_
  iterate 2 refine jq ?_
  refine jg ?_
  refine jo ?_
  refine je ?_
  refine WS.pblock rfl ?_
  refine WS.ploopI (σ := Nat) (τ := Unit) (fun i => [(0, .p (some (2,0))), (1, .p (some (1,0))), (2, .sl (some (3,0)) s.n s.n q), (7, .sl (some (4,0)) s.n s.n true), (8, .sl (some (5,0)) s.n s.n true), (9, .i .i64 i)]) (fun _ => asM s (runsT s.T) ++ [some ⟨cellsR rwRn (runsT s.T), 31, true⟩, some ⟨cellsR rwVw (viewsT s.T), 54, true⟩]) (fun i => i ≤ s.n) (fun i => s.n - i)
    (fun _ => [(0, .p (some (2,0))), (8, .sl (some (5,0)) s.n s.n true)]) (fun _ => asM s (runsT s.T) ++ [none, some ⟨cellsR rwVw (viewsT s.T), 54, true⟩]) (fun _ => True) 0 [0,1,2,3,4,5] 0 rfl (Nat.zero_le _) (jSb (by simp [jVb, jOb, jMb, mapL_cellsR, okL_cellsR, asM, tsR, trR, arR]) (by simp only [jSl, jOb, jMb, Nat.reduceAdd, Nat.reduceLT, asM, tsR, trR, arR] <;> exact jClo)) rfl ?_ ?_
  · intro i hi
    simp only [asM, tsR, trR, arR, List.cons_append, List.nil_append]
    by_cases hlt : i < s.n
    · obtain ⟨x, hx⟩ : ∃ x, (runsT s.T)[i]? = some x := ⟨_, List.getElem?_eq_getElem (by omega)⟩
      obtain ⟨w, hw⟩ : ∃ w, (viewsT s.T)[i]? = some w := ⟨_, List.getElem?_eq_getElem (by omega)⟩
      obtain ⟨x1, x2, x3⟩ := views_at hw hx
      obtain ⟨j, p, e1, e2, hp, hlv, p1, p2, p3, p4, p5, p6⟩ := views_rep h.rep w (List.mem_of_getElem? hw)
      have G := ar_get_yes s.ps j s.fr s.n p hp hlv (by omega)
      rw [← e1] at G
      iterate 2 refine jq ?_
      refine jg ?_
      iterate 3 refine jo ?_
      refine jDT ?_
      refine je ?_
      refine WS.pcondT rfl rfl ?_
      refine WS.pskip rfl ?_
      refine jq ?_
      refine WS.pblock rfl ?_
      iterate 2 refine jq ?_
      refine WS.pdraw (tb := tb) (by kernel_rfl) rfl (by kernel_rfl) (by kernel_rfl) ?_
      iterate 2 refine jp ?_
      refine WD.pP (tb := tb) rfl rfl rfl rfl (evP_index rfl rfl rfl rfl rfl rfl (by omega)) (by simp only [Nat.zero_add, Nat.add_zero, Nat.reduceAdd, Nat.reduceMul, Nat.add_assoc, Nat.mul_one]; exact rfl) ?_
      refine WD.rA (tb := tb) rfl rfl rfl rfl (evQ_R rfl (evR_loads rfl rfl rfl rfl rfl (by exact (cellsR_part0 (R := rwRn) hx (by exact Nat.le_of_ble_eq_true rfl))) (by exact rfl))) (by simp only [List.drop_zero, List.drop_succ_cons, List.take_succ_cons, List.take_zero, rwPl, rwRn, rwVw]; exact rfl) ?_
      iterate 2 refine jp ?_
      refine WD.pP (tb := tb) rfl rfl rfl rfl (evP_index rfl rfl rfl rfl rfl rfl (by omega)) (by simp only [Nat.zero_add, Nat.add_zero, Nat.reduceAdd, Nat.reduceMul, Nat.add_assoc, Nat.mul_one]; exact rfl) ?_
      refine WD.rA (tb := tb) rfl rfl rfl rfl (evQ_R rfl (evR_loads rfl rfl rfl rfl rfl (by exact (cellsR_part0 (R := rwRn) hx (by exact Nat.le_of_ble_eq_true rfl))) (by exact rfl))) (by simp only [List.drop_zero, List.drop_succ_cons, List.take_succ_cons, List.take_zero, rwPl, rwRn, rwVw]; exact rfl) ?_
      refine WD.pB (tb := tb) false rfl rfl rfl rfl (evP_neq rfl rfl rfl (by kernel_rfl) (by kernel_rfl)) (by rw [Rn_eq]; exact nd_f (by omega)) ?_
      iterate 3 refine jp ?_
      refine WD.pP (tb := tb) rfl rfl rfl rfl (evP_index rfl rfl rfl rfl rfl rfl (by omega)) (by simp only [Nat.zero_add, Nat.add_zero, Nat.reduceAdd, Nat.reduceMul, Nat.add_assoc, Nat.mul_one]; exact rfl) ?_
      refine jd ?_
      refine WD.rA (tb := tb) rfl rfl rfl rfl (evQ_R rfl (evR_loads rfl rfl rfl rfl rfl (by exact (cellsR_part (R := rwVw) hw (by exact Nat.le_of_ble_eq_true rfl))) (by exact rfl))) (by simp only [List.drop_zero, List.drop_succ_cons, List.take_succ_cons, List.take_zero, rwPl, rwRn, rwVw]; exact rfl) ?_
      iterate 2 refine jp ?_
      refine WD.pP (tb := tb) rfl rfl rfl rfl (evP_index rfl rfl rfl rfl rfl rfl (by omega)) (by simp only [Nat.zero_add, Nat.add_zero, Nat.reduceAdd, Nat.reduceMul, Nat.add_assoc, Nat.mul_one]; exact rfl) ?_
      refine WD.rA (tb := tb) rfl rfl rfl rfl (evQ_R rfl (evR_loads rfl rfl rfl rfl rfl (by exact (cellsR_part0 (R := rwRn) hx (by exact Nat.le_of_ble_eq_true rfl))) (by exact rfl))) (by simp only [List.drop_zero, List.drop_succ_cons, List.take_succ_cons, List.take_zero, rwPl, rwRn, rwVw]; exact rfl) ?_
      refine WD.pB (tb := tb) false rfl rfl rfl rfl (evP_neq rfl rfl rfl (by kernel_rfl) (by kernel_rfl)) (by rw [Rn_eq]; exact nd_f (by omega)) ?_
      iterate 4 refine jp ?_
      refine WD.pP (tb := tb) rfl rfl rfl rfl (evP_index rfl rfl rfl rfl rfl rfl (by omega)) (by simp only [Nat.zero_add, Nat.add_zero, Nat.reduceAdd, Nat.reduceMul, Nat.add_assoc, Nat.mul_one]; exact rfl) ?_
      refine jd ?_
      refine WD.r (tb := tb) rfl rfl rfl rfl (evQ_R rfl (evR_load rfl rfl rfl rfl (cellsR_get0 hw rfl))) ?_
      refine jdDF ?_
      refine jp ?_
      refine WD.fin rfl ?_
      refine WS.pcondF rfl rfl ?_
      refine WS.pskip rfl ?_
      refine jq ?_
      refine jg ?_
      iterate 3 refine jo ?_
      refine jI ?_
      refine jP ?_
      refine WS.po (tb := tb) rfl rfl rfl rfl (step_R rfl (evR_load rfl rfl rfl rfl (cellsR_get0 hw rfl))) ?_
      refine jc [0,1] G (by simp [jOb, arR]) (by simp [jEb, jOb, jMb, mapL_cellsR, okL_cellsR, arR]) ?_; rintro _ _ ⟨rfl, rfl⟩ -; simp only [jPg, jMb, ll, Nat.reduceAdd, Nat.reduceLT, Nat.zero_add, if_true, if_false, Nat.reduceSub, reduceIte, mapL_cellsR, Nat.lt_irrefl, Nat.not_lt_zero, Nat.zero_lt_succ, Nat.lt_add_one, arR]
      iterate 3 refine jo ?_
      refine jn ?_
      refine js ?_
      refine jo ?_
      refine je ?_
      refine jq ?_
      refine WS.pdraw (tb := tb) (by kernel_rfl) rfl (by kernel_rfl) (by kernel_rfl) ?_
      refine jp ?_
      refine WD.pB (tb := tb) false rfl rfl rfl rfl rfl rfl ?_
      refine jp ?_
      refine jd ?_
      refine WD.rA (tb := tb) rfl rfl rfl rfl rfl (by simp only [List.drop_zero, List.drop_succ_cons, List.take_succ_cons, List.take_zero, rwPl, rwRn, rwVw]; exact rfl) ?_
      iterate 2 refine jp ?_
      refine WD.pP (tb := tb) rfl rfl rfl rfl (evP_index rfl rfl rfl rfl rfl rfl (by omega)) (by simp only [Nat.zero_add, Nat.add_zero, Nat.reduceAdd, Nat.reduceMul, Nat.add_assoc, Nat.mul_one]; exact rfl) ?_
      refine WD.rA (tb := tb) rfl rfl rfl rfl (evQ_R rfl (evR_loads rfl rfl rfl rfl rfl (by exact (cellsR_part0 (R := rwRn) hx (by exact Nat.le_of_ble_eq_true rfl))) (by exact rfl))) (by simp only [List.drop_zero, List.drop_succ_cons, List.take_succ_cons, List.take_zero, rwPl, rwRn, rwVw]; exact rfl) ?_
      refine WD.pB (tb := tb) false rfl rfl rfl rfl (evP_neq rfl rfl rfl (by kernel_rfl) (by kernel_rfl)) (by rw [Rn_eq]; exact nd_f (by omega)) ?_
      iterate 2 refine jp ?_
      refine jd ?_
      refine jr ?_
      iterate 2 refine jp ?_
      refine WD.pP (tb := tb) rfl rfl rfl rfl (evP_index rfl rfl rfl rfl rfl rfl (by omega)) (by simp only [Nat.zero_add, Nat.add_zero, Nat.reduceAdd, Nat.reduceMul, Nat.add_assoc, Nat.mul_one]; exact rfl) ?_
      refine jd ?_
      refine WD.r (tb := tb) rfl rfl rfl rfl (evQ_R rfl (evR_load rfl rfl rfl rfl (cellsR_get hw rfl))) ?_
      refine jdNF ?_
      iterate 2 refine jp ?_
      refine jd ?_
      refine jr ?_
      iterate 2 refine jp ?_
      refine WD.pP (tb := tb) rfl rfl rfl rfl (evP_index rfl rfl rfl rfl rfl rfl (by omega)) (by simp only [Nat.zero_add, Nat.add_zero, Nat.reduceAdd, Nat.reduceMul, Nat.add_assoc, Nat.mul_one]; exact rfl) ?_
      refine jd ?_
      refine WD.r (tb := tb) rfl rfl rfl rfl (evQ_R rfl (evR_load rfl rfl rfl rfl (cellsR_get hw rfl))) ?_
      refine jdNF ?_
      iterate 2 refine jp ?_
      refine jd ?_
      refine jr ?_
      iterate 2 refine jp ?_
      refine WD.pP (tb := tb) rfl rfl rfl rfl (evP_index rfl rfl rfl rfl rfl rfl (by omega)) (by simp only [Nat.zero_add, Nat.add_zero, Nat.reduceAdd, Nat.reduceMul, Nat.add_assoc, Nat.mul_one]; exact rfl) ?_
      refine jd ?_
      refine WD.r (tb := tb) rfl rfl rfl rfl (evQ_R rfl (evR_load rfl rfl rfl rfl (cellsR_get hw rfl))) ?_
      refine jdNF ?_
      refine jp ?_
      refine WD.fin rfl ?_
      refine WS.pcondF rfl rfl ?_
      refine WS.pskip rfl ?_
      refine jg ?_
      refine jo ?_
      refine jW ?_
      refine jo ?_
      refine je ?_
      refine WS.nil ?_
      exact ⟨i + 1, by omega, by omega, (jSn [0,1,2,3,4,5] (by simp [jVb, jOb, jMb, mapL_cellsR, okL_cellsR, asM, tsR, trR, arR]) (by simp only [jSl, jOb, jMb, Nat.reduceAdd, Nat.reduceLT, asM, tsR, trR, arR] <;> exact jClo))⟩
    · obtain rfl : i = s.n := by omega
      iterate 2 refine jq ?_
      refine jg ?_
      iterate 3 refine jo ?_
      refine jDF ?_
      refine je ?_
      refine WS.pcondF rfl rfl ?_
      refine WS.pout rfl rfl ?_
      exact ⟨rfl, (), trivial, (jSn [0,1,2,3,4,5] (by simp [jVb, jOb, jMb, mapL_cellsR, okL_cellsR, asM, tsR, trR, arR]) (by simp only [jSl, jOb, jMb, Nat.reduceAdd, Nat.reduceLT, asM, tsR, trR, arR] <;> exact jClo))⟩
  · rintro _ -
    simp only [asM, tsR, trR, arR, List.cons_append, List.nil_append]
    iterate 2 refine jq ?_
    refine jg ?_
    iterate 2 refine jo ?_
    refine jDF ?_
    refine je ?_
    refine WS.pcondF rfl rfl ?_
    refine WS.pskip rfl ?_
    refine jq ?_
    refine jg ?_
    iterate 4 refine jo ?_
    refine jc [0,1,2] R (by simp [jOb, trR, arR, vwM]) (by simp [jEb, jOb, jMb, mapL_cellsR, okL_cellsR, trR, arR, vwM]) ?_; rintro _ _ ⟨rfl, rfl⟩ -; simp only [jPg, jMb, ll, Nat.reduceAdd, Nat.reduceLT, Nat.zero_add, if_true, if_false, Nat.reduceSub, reduceIte, mapL_cellsR, Nat.lt_irrefl, Nat.not_lt_zero, Nat.zero_lt_succ, Nat.lt_add_one, trR, arR, vwM]
    refine jc [5] H (by simp [jOb, trR, arR, vwM]) (by simp [jEb, jOb, jMb, mapL_cellsR, okL_cellsR, trR, arR, vwM]) ?_; rintro _ _ ⟨rfl, rfl⟩ -; simp only [jPg, jMb, ll, Nat.reduceAdd, Nat.reduceLT, Nat.zero_add, if_true, if_false, Nat.reduceSub, reduceIte, mapL_cellsR, Nat.lt_irrefl, Nat.not_lt_zero, Nat.zero_lt_succ, Nat.lt_add_one, trR, arR, vwM]
    refine jDT ?_
    refine jo ?_
    refine je ?_
    refine WS.pret rfl ⟨.inr rfl, _, rfl, ?_⟩
    exact ⟨_, rfl, [0,1,2,3], asM s (runsT s.T), .b true, ⟨rfl, rfl, (by simp [jVb, jOb, jMb, mapL_cellsR, okL_cellsR, asM, tsR, trR, arR]), rfl⟩, rfl, trivial, rfl, rfl⟩
end Go.Proofs.Ytpogfelbimcglaa.Am

