/- Functions of the tree and of the law TreePlays, walked. Conditions: those of each theorem. -/
import Derived.Test.YtpogfelbimcglaaTp2
namespace Go.Proofs.Ytpogfelbimcglaa.Am
open Go.Proofs
set_option maxRecDepth 1000000
set_option maxHeartbeats 4000000
set_option linter.unusedSimpArgs false
set_option linter.unusedVariables false
def slQ (p : Nat) (l : List Rn) : V := match l with
  | [] => .sl none 0 0 false
  | _ :: t => .sl (some (p, 0)) (t.length + 1) (t.length + 1) true
def bkW (l : List Rn) : Option Blk := match l with
  | [] => none
  | x :: t => some ⟨cellsR rwRn (x :: t), 31, true⟩
theorem Rn_oneW (r : Rn) : cellsR rwRn [r] = [.i .i64 r.a, .i .i64 r.b, .i .i64 r.c] := by simp [cellsR, rwRn]
theorem Rn_twoW (r x : Rn) : cellsR rwRn [r, x] = [.i .i64 r.a, .i .i64 r.b, .i .i64 r.c, .i .i64 x.a, .i .i64 x.b, .i .i64 x.c] := by simp [cellsR, rwRn]
theorem insR_len (r : Rn) : ∀ L : List Rn, (insR r L).length = L.length + 1
  | [] => rfl
  | x :: L => by simp only [insR]; split <;> simp [insR_len r L]
def rV (r : Rn) : V := .agg [.i .i64 r.a, .i .i64 r.b, .i .i64 r.c]
def rBk (r : Rn) : Option Blk := some ⟨[.i .i64 r.a, .i .i64 r.b, .i .i64 r.c], 31, true⟩
def foP (r : Rn) (L : List Rn) : List Rn × Bool := L.foldl (putF r) ([], false)
theorem foP_app (r : Rn) (L : List Rn) (x : Rn) : foP r (L ++ [x]) = putF r (foP r L) x := by simp [foP]
theorem putF_ne (r : Rn) : ∀ (L : List Rn) (o : List Rn × Bool), (o.2 = true → o.1 ≠ []) → (L.foldl (putF r) o).2 = true → (L.foldl (putF r) o).1 ≠ []
  | [], o, h, h2 => h h2
  | x :: L, o, h, h2 => by
    simp only [List.foldl_cons] at h2 ⊢
    exact putF_ne r L (putF r o x) (fun _ => by unfold putF; split <;> simp) h2
theorem foP_ne {r : Rn} {L : List Rn} (h : (foP r L).2 = true) : (foP r L).1 ≠ [] := putF_ne r L ([], false) (fun h => by cases h) h
theorem foP_put (r : Rn) (L : List Rn) : putR r (foP r L) = insR r L := by simpa [foP] using putR_eq r L []
theorem put_none (r : Rn) : FM Try.prog 18 [.sl none 0 0 false, rV r] [] (fun v M' => v = .sl (some (0,0)) 1 1 true ∧ M' = [some ⟨cellsR rwRn [r], 31, true⟩]) := by
  refine FM.pbodyV (tb := tb) (fn := Try.f18) rfl rfl ?_
  simp only [argS, Nat.reduceAdd, List.length_cons, List.length_nil, rV]
  refine jq ?_
  refine jg ?_
  refine jn ?_
  refine jo ?_
  refine je ?_
  refine jq ?_
  refine jg ?_
  refine jo ?_
  refine je ?_
  refine jq ?_
  refine jg ?_
  refine jo ?_
  refine je ?_
  iterate 2 refine jq ?_
  refine jg ?_
  refine jo ?_
  refine je ?_
  refine WS.pblock rfl ?_
  refine WS.ploopI (σ := Unit) (τ := Unit) (fun _ => [(0, .sl none 0 0 false), (3, .p (some (0,0))), (5, .sl none 0 0 false), (6, .b false), (7, .i .i64 0)]) (fun _ => [rBk r]) (fun _ => True) (fun _ => 0) (fun _ => [(3, .p (some (0,0))), (5, .sl none 0 0 false), (6, .b false)]) (fun _ => [rBk r]) (fun _ => True) 0 [0] () rfl trivial (jSb (by simp [jVb, jOb, jMb, mapL_cellsR, okL_cellsR, rBk]) (by simp only [jSl, jOb, jMb, Nat.reduceAdd, Nat.reduceLT, rBk] <;> exact jClo)) rfl ?_ ?_
  · rintro _ -
    simp only [rBk]
    iterate 2 refine jq ?_
    refine jg ?_
    iterate 3 refine jo ?_
    refine jB false ?_
    refine je ?_
    refine WS.pcondF rfl rfl ?_
    refine WS.pout rfl rfl ?_
    exact ⟨rfl, (), trivial, (jSn [0] (by simp [jVb, jOb, jMb, mapL_cellsR, okL_cellsR, rBk]) (by simp only [jSl, jOb, jMb, Nat.reduceAdd, Nat.reduceLT, rBk] <;> exact jClo))⟩
  · rintro _ -
    simp only [rBk]
    iterate 2 refine jq ?_
    refine jg ?_
    refine jo ?_
    refine jB true ?_
    refine je ?_
    refine WS.pcondT rfl rfl ?_
    refine jg ?_
    refine jo ?_
    refine WS.poA (tb := tb) rfl rfl rfl rfl rfl (by simp only [List.drop_zero, List.drop_succ_cons, List.take_succ_cons, List.take_zero, rwPl, rwRn, rwVw]; exact rfl) ?_
    refine jn ?_
    refine WS.po (tb := tb) rfl rfl rfl rfl (step_H rfl rfl (evH_append_nil rfl rfl rfl rfl rfl rfl rfl rfl rfl rfl (by omega) (by omega) (cellsAt_all rfl rfl) (by first | exact rfl | (simp only [Pl_len, Rn_len, Vw_len, vcells, List.length_cons, List.length_nil, cellsI_len, cellsB_len, List.length_set, List.length_replicate, List.length_append, List.length_map, List.length_take, List.length_drop]; omega) | omega) (by omega))) ?_; (try rw [upd_mem _ rfl]); (try rw [new_mem]); (try simp only [List.set_cons_zero, List.set_cons_succ, List.cons_append, List.nil_append, mem_next, List.length_cons, List.length_nil, Nat.zero_add, Nat.reduceAdd, List.drop_zero, vcells, cellsI_app1, cellsB_app1, cellsI_cons, repsI, repsB, Pl_app1, Pl_reps, Rn_app1, Rn_reps, Vw_app1, Vw_reps])
    refine jo ?_
    refine je ?_
    refine jq ?_
    refine jg ?_
    iterate 2 refine jo ?_
    refine je ?_
    refine WS.pret rfl ⟨.inr rfl, _, rfl, ?_⟩
    exact ⟨_, rfl, [2], [some ⟨cellsR rwRn [r], 31, true⟩], .sl (some (0,0)) 1 1 true, ⟨rfl, rfl, (by simp [jVb, jOb, jMb, mapL_cellsR, okL_cellsR, Rn_oneW]), rfl⟩, rfl, Nat.lt_succ_self _, rfl, rfl⟩
theorem put_some (r : Rn) : FM Try.prog 18 [.sl (some (0,0)) 0 0 false, rV r] [none] (fun v M' => v = .sl (some (1,0)) 1 1 true ∧ M' = [none, some ⟨cellsR rwRn [r], 31, true⟩]) := by
  refine FM.pbodyV (tb := tb) (fn := Try.f18) rfl rfl ?_
  simp only [argS, Nat.reduceAdd, List.length_cons, List.length_nil, rV]
  refine jq ?_
  refine jg ?_
  refine jn ?_
  refine jo ?_
  refine je ?_
  refine jq ?_
  refine jg ?_
  refine jo ?_
  refine je ?_
  refine jq ?_
  refine jg ?_
  refine jo ?_
  refine je ?_
  iterate 2 refine jq ?_
  refine jg ?_
  refine jo ?_
  refine je ?_
  refine WS.pblock rfl ?_
  refine WS.ploopI (σ := Unit) (τ := Unit) (fun _ => [(0, .sl (some (0,0)) 0 0 false), (3, .p (some (1,0))), (5, .sl none 0 0 false), (6, .b false), (7, .i .i64 0)]) (fun _ => [none, rBk r]) (fun _ => True) (fun _ => 0) (fun _ => [(3, .p (some (1,0))), (5, .sl none 0 0 false), (6, .b false)]) (fun _ => [none, rBk r]) (fun _ => True) 0 [0,1] () rfl trivial (jSb (by simp [jVb, jOb, jMb, mapL_cellsR, okL_cellsR, rBk]) (by simp only [jSl, jOb, jMb, Nat.reduceAdd, Nat.reduceLT, rBk] <;> exact jClo)) rfl ?_ ?_
  · rintro _ -
    simp only [rBk]
    iterate 2 refine jq ?_
    refine jg ?_
    iterate 3 refine jo ?_
    refine jB false ?_
    refine je ?_
    refine WS.pcondF rfl rfl ?_
    refine WS.pout rfl rfl ?_
    exact ⟨rfl, (), trivial, (jSn [0,1] (by simp [jVb, jOb, jMb, mapL_cellsR, okL_cellsR, rBk]) (by simp only [jSl, jOb, jMb, Nat.reduceAdd, Nat.reduceLT, rBk] <;> exact jClo))⟩
  · rintro _ -
    simp only [rBk]
    iterate 2 refine jq ?_
    refine jg ?_
    refine jo ?_
    refine jB true ?_
    refine je ?_
    refine WS.pcondT rfl rfl ?_
    refine jg ?_
    refine jo ?_
    refine WS.poA (tb := tb) rfl rfl rfl rfl rfl (by simp only [List.drop_zero, List.drop_succ_cons, List.take_succ_cons, List.take_zero, rwPl, rwRn, rwVw]; exact rfl) ?_
    refine jn ?_
    refine WS.po (tb := tb) rfl rfl rfl rfl (step_H rfl rfl (evH_append_nil rfl rfl rfl rfl rfl rfl rfl rfl rfl rfl (by omega) (by omega) (cellsAt_all rfl rfl) (by first | exact rfl | (simp only [Pl_len, Rn_len, Vw_len, vcells, List.length_cons, List.length_nil, cellsI_len, cellsB_len, List.length_set, List.length_replicate, List.length_append, List.length_map, List.length_take, List.length_drop]; omega) | omega) (by omega))) ?_; (try rw [upd_mem _ rfl]); (try rw [new_mem]); (try simp only [List.set_cons_zero, List.set_cons_succ, List.cons_append, List.nil_append, mem_next, List.length_cons, List.length_nil, Nat.zero_add, Nat.reduceAdd, List.drop_zero, vcells, cellsI_app1, cellsB_app1, cellsI_cons, repsI, repsB, Pl_app1, Pl_reps, Rn_app1, Rn_reps, Vw_app1, Vw_reps])
    refine jo ?_
    refine je ?_
    refine jq ?_
    refine jg ?_
    iterate 2 refine jo ?_
    refine je ?_
    refine WS.pret rfl ⟨.inr rfl, _, rfl, ?_⟩
    exact ⟨_, rfl, [0,3], [none, some ⟨cellsR rwRn [r], 31, true⟩], .sl (some (1,0)) 1 1 true, ⟨rfl, rfl, (by simp [jVb, jOb, jMb, mapL_cellsR, okL_cellsR, Rn_oneW]), rfl⟩, rfl, Nat.lt_succ_self _, rfl, rfl⟩
theorem put_walk (L : List Rn) (r : Rn) (q : Bool) (hn : L.length ≤ 300) : FM Try.prog 18 [.sl (some (0,0)) L.length L.length q, rV r] (roW L) (fun v M' => v = .sl (some (1,0)) (L.length + 1) (L.length + 1) true ∧ M' = roW L ++ [some ⟨cellsR rwRn (insR r L), 31, true⟩]) := by
  refine FM.pbodyV (tb := tb) (fn := Try.f18) rfl rfl ?_
  simp only [argS, Nat.reduceAdd, roW, List.length_cons, List.length_nil, rV]
  refine jq ?_
  refine jg ?_
  refine jn ?_
  refine jo ?_
  refine je ?_
  refine jq ?_
  refine jg ?_
  refine jo ?_
  refine je ?_
  refine jq ?_
  refine jg ?_
  refine jo ?_
  refine je ?_
  iterate 2 refine jq ?_
  refine jg ?_
  refine jo ?_
  refine je ?_
  refine WS.pblock rfl ?_
  refine WS.ploopI (σ := Nat) (τ := Unit) (fun i => [(0, .sl (some (0,0)) L.length L.length q), (3, .p (some (1,0))), (5, slQ 2 (foP r (L.take i)).1), (6, .b (foP r (L.take i)).2), (7, .i .i64 i)]) (fun i => roW L ++ [rBk r, bkW (foP r (L.take i)).1]) (fun i => i ≤ L.length) (fun i => L.length - i)
    (fun _ => [(3, .p (some (1,0))), (5, slQ 2 (foP r L).1), (6, .b (foP r L).2)]) (fun _ => roW L ++ [rBk r, bkW (foP r L).1]) (fun _ => True) 0 [0,1,2] 0 rfl (Nat.zero_le _) (jSb (by simp [jVb, jOb, jMb, mapL_cellsR, okL_cellsR, roW, rBk, slQ, bkW, foP, List.take_zero, List.foldl_nil]) (by simp only [jSl, jOb, jMb, Nat.reduceAdd, Nat.reduceLT, roW, rBk, slQ, bkW, foP, List.take_zero, List.foldl_nil] <;> exact jClo)) rfl ?_ ?_
  · intro i hi
    have hlen := putF_len r (L.take i) ([], false)
    by_cases h : i < L.length
    · obtain ⟨x, hx⟩ : ∃ x, L[i]? = some x := ⟨_, List.getElem?_eq_getElem h⟩
      have e : foP r (L.take (i + 1)) = putF r (foP r (L.take i)) x := by rw [List.take_add_one, hx]; exact foP_app r _ x
      have hne := foP_ne (r := r) (L := L.take i)
      have hl2 : (foP r (L.take i)).1.length ≤ 600 := by simp only [List.length_take, List.length_nil] at hlen; unfold foP; omega
      generalize foP r (L.take i) = o at *
      obtain ⟨o, d⟩ := o
      cases d with
      | true =>
        have e2 : foP r (L.take (i + 1)) = (o ++ [x], true) := by rw [e, putF, if_neg (by simp)]
        rcases o with _ | ⟨y, o⟩
        · exact absurd rfl (hne rfl)
        · simp only [List.length_cons] at hl2
          rw [List.cons_append] at e2
          simp only [roW, rBk, slQ, bkW, List.cons_append, List.nil_append]
          iterate 2 refine jq ?_
          refine jg ?_
          iterate 3 refine jo ?_
          refine jDT ?_
          refine je ?_
          refine WS.pcondT rfl rfl ?_
          refine WS.pskip rfl ?_
          refine jq ?_
          refine WS.pblock rfl ?_
          iterate 2 refine jq ?_
          refine WS.pdraw (tb := tb) (by kernel_rfl) rfl (by kernel_rfl) (by kernel_rfl) ?_
          refine jp ?_
          refine WD.pB (tb := tb) false rfl rfl rfl rfl rfl rfl ?_
          refine jp ?_
          iterate 4 refine jno ?_
          refine WD.no1 rfl rfl rfl rfl ?_
          refine jno ?_
          refine WD.no1 rfl rfl rfl rfl ?_
          refine jno ?_
          refine jp ?_
          refine WD.fin rfl ?_
          refine WS.pcondF rfl rfl ?_
          refine WS.pskip rfl ?_
          refine jg ?_
          iterate 3 refine jo ?_
          refine jI ?_
          refine WS.poA (tb := tb) rfl rfl rfl rfl (step_R rfl (evR_loads rfl rfl rfl rfl rfl (by exact (cellsR_part0 (R := rwRn) hx (by exact Nat.le_of_ble_eq_true rfl))) (by exact rfl))) (by simp only [List.drop_zero, List.drop_succ_cons, List.take_succ_cons, List.take_zero, rwPl, rwRn, rwVw]; exact rfl) ?_
          refine jn ?_
          refine WS.po (tb := tb) rfl rfl rfl rfl (step_H rfl rfl (evH_append_open rfl rfl rfl rfl rfl rfl rfl rfl rfl (by omega) rfl (Nat.zero_le _) (by omega) (cellsAt_all rfl rfl) (by first | exact rfl | (simp only [Pl_len, Rn_len, Vw_len, vcells, List.length_cons, List.length_nil, cellsI_len, cellsB_len, List.length_set, List.length_replicate, List.length_append, List.length_map, List.length_take, List.length_drop]; omega) | omega) (by first | exact rfl | (simp only [Pl_len, Rn_len, Vw_len, vcells, List.length_cons, List.length_nil, cellsI_len, cellsB_len, List.length_set, List.length_replicate, List.length_append, List.length_map, List.length_take, List.length_drop]; omega) | omega) rfl (by omega))) ?_; (try rw [upd_mem _ rfl]); (try rw [new_mem]); (try simp only [List.set_cons_zero, List.set_cons_succ, List.cons_append, List.nil_append, mem_next, List.length_cons, List.length_nil, Nat.zero_add, Nat.reduceAdd, List.drop_zero, vcells, cellsI_app1, cellsB_app1, cellsI_cons, repsI, repsB, Pl_app1, Pl_reps, Rn_app1, Rn_reps, Vw_app1, Vw_reps])
          refine jo ?_
          refine je ?_
          refine jg ?_
          refine jo ?_
          refine jW ?_
          refine jo ?_
          refine je ?_
          refine WS.nil ?_
          exact ⟨i + 1, h, by omega, (jSn [0,1,4] (by simp [jVb, jOb, jMb, mapL_cellsR, okL_cellsR, roW, rBk, slQ, bkW, e2]) (by simp only [jSl, jOb, jMb, Nat.reduceAdd, Nat.reduceLT, roW, rBk, slQ, bkW, e2] <;> exact jClo))⟩
      | false =>
        by_cases hg : x.a > r.a
        · have e2 : foP r (L.take (i + 1)) = (o ++ [r] ++ [x], true) := by rw [e, putF, if_pos ⟨rfl, hg⟩]
          rcases o with _ | ⟨y, o⟩
          · simp only [List.nil_append, List.cons_append] at e2
            simp only [roW, rBk, slQ, bkW, List.cons_append, List.nil_append]
            iterate 2 refine jq ?_
            refine jg ?_
            iterate 3 refine jo ?_
            refine jDT ?_
            refine je ?_
            refine WS.pcondT rfl rfl ?_
            refine WS.pskip rfl ?_
            refine jq ?_
            refine WS.pblock rfl ?_
            iterate 2 refine jq ?_
            refine WS.pdraw (tb := tb) (by kernel_rfl) rfl (by kernel_rfl) (by kernel_rfl) ?_
            refine jp ?_
            refine WD.pB (tb := tb) true rfl rfl rfl rfl rfl rfl ?_
            iterate 3 refine jp ?_
            refine WD.pP (tb := tb) rfl rfl rfl rfl (evP_index rfl rfl rfl rfl rfl rfl (by omega)) (by simp only [Nat.zero_add, Nat.add_zero, Nat.reduceAdd, Nat.reduceMul, Nat.add_assoc, Nat.mul_one]; exact rfl) ?_
            refine jd ?_
            refine WD.r (tb := tb) rfl rfl rfl rfl (evQ_R rfl (evR_load rfl rfl rfl rfl (cellsR_get0 hx rfl))) ?_
            refine jd ?_
            refine jr ?_
            refine jdDT ?_
            refine jp ?_
            refine WD.fin rfl ?_
            refine WS.pcondT rfl rfl ?_
            refine jq ?_
            refine jg ?_
            refine jo ?_
            refine WS.poA (tb := tb) rfl rfl rfl rfl rfl (by simp only [List.drop_zero, List.drop_succ_cons, List.take_succ_cons, List.take_zero, rwPl, rwRn, rwVw]; exact rfl) ?_
            refine jn ?_
            refine WS.po (tb := tb) rfl rfl rfl rfl (step_H rfl rfl (evH_append_nil rfl rfl rfl rfl rfl rfl rfl rfl rfl rfl (by omega) (by omega) (cellsAt_all rfl rfl) (by first | exact rfl | (simp only [Pl_len, Rn_len, Vw_len, vcells, List.length_cons, List.length_nil, cellsI_len, cellsB_len, List.length_set, List.length_replicate, List.length_append, List.length_map, List.length_take, List.length_drop]; omega) | omega) (by omega))) ?_; (try rw [upd_mem _ rfl]); (try rw [new_mem]); (try simp only [List.set_cons_zero, List.set_cons_succ, List.cons_append, List.nil_append, mem_next, List.length_cons, List.length_nil, Nat.zero_add, Nat.reduceAdd, List.drop_zero, vcells, cellsI_app1, cellsB_app1, cellsI_cons, repsI, repsB, Pl_app1, Pl_reps, Rn_app1, Rn_reps, Vw_app1, Vw_reps])
            refine jo ?_
            refine je ?_
            refine jg ?_
            refine jo ?_
            refine je ?_
            refine jg ?_
            iterate 3 refine jo ?_
            refine jI ?_
            refine WS.poA (tb := tb) rfl rfl rfl rfl (step_R rfl (evR_loads rfl rfl rfl rfl rfl (by exact (cellsR_part0 (R := rwRn) hx (by exact Nat.le_of_ble_eq_true rfl))) (by exact rfl))) (by simp only [List.drop_zero, List.drop_succ_cons, List.take_succ_cons, List.take_zero, rwPl, rwRn, rwVw]; exact rfl) ?_
            refine jn ?_
            refine WS.po (tb := tb) rfl rfl rfl rfl (step_H rfl rfl (evH_append_open rfl rfl rfl rfl rfl rfl rfl rfl rfl (by omega) rfl (Nat.zero_le _) (by omega) (cellsAt_all rfl rfl) (by first | exact rfl | (simp only [Pl_len, Rn_len, Vw_len, vcells, List.length_cons, List.length_nil, cellsI_len, cellsB_len, List.length_set, List.length_replicate, List.length_append, List.length_map, List.length_take, List.length_drop]; omega) | omega) (by first | exact rfl | (simp only [Pl_len, Rn_len, Vw_len, vcells, List.length_cons, List.length_nil, cellsI_len, cellsB_len, List.length_set, List.length_replicate, List.length_append, List.length_map, List.length_take, List.length_drop]; omega) | omega) rfl (by omega))) ?_; (try rw [upd_mem _ rfl]); (try rw [new_mem]); (try simp only [List.set_cons_zero, List.set_cons_succ, List.cons_append, List.nil_append, mem_next, List.length_cons, List.length_nil, Nat.zero_add, Nat.reduceAdd, List.drop_zero, vcells, cellsI_app1, cellsB_app1, cellsI_cons, repsI, repsB, Pl_app1, Pl_reps, Rn_app1, Rn_reps, Vw_app1, Vw_reps])
            refine jo ?_
            refine je ?_
            refine jg ?_
            refine jo ?_
            refine jW ?_
            refine jo ?_
            refine je ?_
            refine WS.nil ?_
            exact ⟨i + 1, h, by omega, (jSn [0,1,6] (by simp [jVb, jOb, jMb, mapL_cellsR, okL_cellsR, roW, rBk, slQ, bkW, e2, Rn_twoW]) (by simp only [jSl, jOb, jMb, Nat.reduceAdd, Nat.reduceLT, roW, rBk, slQ, bkW, e2, Rn_twoW] <;> exact jClo))⟩
          · simp only [List.length_cons] at hl2
            simp only [List.cons_append] at e2
            simp only [roW, rBk, slQ, bkW, List.cons_append, List.nil_append]
            iterate 2 refine jq ?_
            refine jg ?_
            iterate 3 refine jo ?_
            refine jDT ?_
            refine je ?_
            refine WS.pcondT rfl rfl ?_
            refine WS.pskip rfl ?_
            refine jq ?_
            refine WS.pblock rfl ?_
            iterate 2 refine jq ?_
            refine WS.pdraw (tb := tb) (by kernel_rfl) rfl (by kernel_rfl) (by kernel_rfl) ?_
            refine jp ?_
            refine WD.pB (tb := tb) true rfl rfl rfl rfl rfl rfl ?_
            iterate 3 refine jp ?_
            refine WD.pP (tb := tb) rfl rfl rfl rfl (evP_index rfl rfl rfl rfl rfl rfl (by omega)) (by simp only [Nat.zero_add, Nat.add_zero, Nat.reduceAdd, Nat.reduceMul, Nat.add_assoc, Nat.mul_one]; exact rfl) ?_
            refine jd ?_
            refine WD.r (tb := tb) rfl rfl rfl rfl (evQ_R rfl (evR_load rfl rfl rfl rfl (cellsR_get0 hx rfl))) ?_
            refine jd ?_
            refine jr ?_
            refine jdDT ?_
            refine jp ?_
            refine WD.fin rfl ?_
            refine WS.pcondT rfl rfl ?_
            refine jq ?_
            refine jg ?_
            refine jo ?_
            refine WS.poA (tb := tb) rfl rfl rfl rfl rfl (by simp only [List.drop_zero, List.drop_succ_cons, List.take_succ_cons, List.take_zero, rwPl, rwRn, rwVw]; exact rfl) ?_
            refine jn ?_
            refine WS.po (tb := tb) rfl rfl rfl rfl (step_H rfl rfl (evH_append_open rfl rfl rfl rfl rfl rfl rfl rfl rfl (by omega) rfl (Nat.zero_le _) (by omega) (cellsAt_all rfl rfl) (by first | exact rfl | (simp only [Pl_len, Rn_len, Vw_len, vcells, List.length_cons, List.length_nil, cellsI_len, cellsB_len, List.length_set, List.length_replicate, List.length_append, List.length_map, List.length_take, List.length_drop]; omega) | omega) (by first | exact rfl | (simp only [Pl_len, Rn_len, Vw_len, vcells, List.length_cons, List.length_nil, cellsI_len, cellsB_len, List.length_set, List.length_replicate, List.length_append, List.length_map, List.length_take, List.length_drop]; omega) | omega) rfl (by omega))) ?_; (try rw [upd_mem _ rfl]); (try rw [new_mem]); (try simp only [List.set_cons_zero, List.set_cons_succ, List.cons_append, List.nil_append, mem_next, List.length_cons, List.length_nil, Nat.zero_add, Nat.reduceAdd, List.drop_zero, vcells, cellsI_app1, cellsB_app1, cellsI_cons, repsI, repsB, Pl_app1, Pl_reps, Rn_app1, Rn_reps, Vw_app1, Vw_reps])
            refine jo ?_
            refine je ?_
            refine jg ?_
            refine jo ?_
            refine je ?_
            refine jg ?_
            iterate 3 refine jo ?_
            refine jI ?_
            refine WS.poA (tb := tb) rfl rfl rfl rfl (step_R rfl (evR_loads rfl rfl rfl rfl rfl (by exact (cellsR_part0 (R := rwRn) hx (by exact Nat.le_of_ble_eq_true rfl))) (by exact rfl))) (by simp only [List.drop_zero, List.drop_succ_cons, List.take_succ_cons, List.take_zero, rwPl, rwRn, rwVw]; exact rfl) ?_
            refine jn ?_
            refine WS.po (tb := tb) rfl rfl rfl rfl (step_H rfl rfl (evH_append_open rfl rfl rfl rfl rfl rfl rfl rfl rfl (by omega) rfl (Nat.zero_le _) (by omega) (cellsAt_all rfl rfl) (by first | exact rfl | (simp only [Pl_len, Rn_len, Vw_len, vcells, List.length_cons, List.length_nil, cellsI_len, cellsB_len, List.length_set, List.length_replicate, List.length_append, List.length_map, List.length_take, List.length_drop]; omega) | omega) (by first | exact rfl | (simp only [Pl_len, Rn_len, Vw_len, vcells, List.length_cons, List.length_nil, cellsI_len, cellsB_len, List.length_set, List.length_replicate, List.length_append, List.length_map, List.length_take, List.length_drop]; omega) | omega) rfl (by omega))) ?_; (try rw [upd_mem _ rfl]); (try rw [new_mem]); (try simp only [List.set_cons_zero, List.set_cons_succ, List.cons_append, List.nil_append, mem_next, List.length_cons, List.length_nil, Nat.zero_add, Nat.reduceAdd, List.drop_zero, vcells, cellsI_app1, cellsB_app1, cellsI_cons, repsI, repsB, Pl_app1, Pl_reps, Rn_app1, Rn_reps, Vw_app1, Vw_reps])
            refine jo ?_
            refine je ?_
            refine jg ?_
            refine jo ?_
            refine jW ?_
            refine jo ?_
            refine je ?_
            refine WS.nil ?_
            exact ⟨i + 1, h, by omega, (jSn [0,1,6] (by simp [jVb, jOb, jMb, mapL_cellsR, okL_cellsR, roW, rBk, slQ, bkW, e2]) (by simp only [jSl, jOb, jMb, Nat.reduceAdd, Nat.reduceLT, roW, rBk, slQ, bkW, e2] <;> exact jClo))⟩
        · have e2 : foP r (L.take (i + 1)) = (o ++ [x], false) := by rw [e, putF, if_neg (by simp; omega)]
          rcases o with _ | ⟨y, o⟩
          · simp only [List.nil_append] at e2
            simp only [roW, rBk, slQ, bkW, List.cons_append, List.nil_append]
            iterate 2 refine jq ?_
            refine jg ?_
            iterate 3 refine jo ?_
            refine jDT ?_
            refine je ?_
            refine WS.pcondT rfl rfl ?_
            refine WS.pskip rfl ?_
            refine jq ?_
            refine WS.pblock rfl ?_
            iterate 2 refine jq ?_
            refine WS.pdraw (tb := tb) (by kernel_rfl) rfl (by kernel_rfl) (by kernel_rfl) ?_
            refine jp ?_
            refine WD.pB (tb := tb) true rfl rfl rfl rfl rfl rfl ?_
            iterate 3 refine jp ?_
            refine WD.pP (tb := tb) rfl rfl rfl rfl (evP_index rfl rfl rfl rfl rfl rfl (by omega)) (by simp only [Nat.zero_add, Nat.add_zero, Nat.reduceAdd, Nat.reduceMul, Nat.add_assoc, Nat.mul_one]; exact rfl) ?_
            refine jd ?_
            refine WD.r (tb := tb) rfl rfl rfl rfl (evQ_R rfl (evR_load rfl rfl rfl rfl (cellsR_get0 hx rfl))) ?_
            refine jd ?_
            refine jr ?_
            refine jdDF ?_
            refine jp ?_
            refine WD.fin rfl ?_
            refine WS.pcondF rfl rfl ?_
            refine WS.pskip rfl ?_
            refine jg ?_
            iterate 3 refine jo ?_
            refine jI ?_
            refine WS.poA (tb := tb) rfl rfl rfl rfl (step_R rfl (evR_loads rfl rfl rfl rfl rfl (by exact (cellsR_part0 (R := rwRn) hx (by exact Nat.le_of_ble_eq_true rfl))) (by exact rfl))) (by simp only [List.drop_zero, List.drop_succ_cons, List.take_succ_cons, List.take_zero, rwPl, rwRn, rwVw]; exact rfl) ?_
            refine jn ?_
            refine WS.po (tb := tb) rfl rfl rfl rfl (step_H rfl rfl (evH_append_nil rfl rfl rfl rfl rfl rfl rfl rfl rfl rfl (by omega) (by omega) (cellsAt_all rfl rfl) (by first | exact rfl | (simp only [Pl_len, Rn_len, Vw_len, vcells, List.length_cons, List.length_nil, cellsI_len, cellsB_len, List.length_set, List.length_replicate, List.length_append, List.length_map, List.length_take, List.length_drop]; omega) | omega) (by omega))) ?_; (try rw [upd_mem _ rfl]); (try rw [new_mem]); (try simp only [List.set_cons_zero, List.set_cons_succ, List.cons_append, List.nil_append, mem_next, List.length_cons, List.length_nil, Nat.zero_add, Nat.reduceAdd, List.drop_zero, vcells, cellsI_app1, cellsB_app1, cellsI_cons, repsI, repsB, Pl_app1, Pl_reps, Rn_app1, Rn_reps, Vw_app1, Vw_reps])
            refine jo ?_
            refine je ?_
            refine jg ?_
            refine jo ?_
            refine jW ?_
            refine jo ?_
            refine je ?_
            refine WS.nil ?_
            exact ⟨i + 1, h, by omega, (jSn [0,1,4] (by simp [jVb, jOb, jMb, mapL_cellsR, okL_cellsR, roW, rBk, slQ, bkW, e2, Rn_oneW]) (by simp only [jSl, jOb, jMb, Nat.reduceAdd, Nat.reduceLT, roW, rBk, slQ, bkW, e2, Rn_oneW] <;> exact jClo))⟩
          · simp only [List.length_cons] at hl2
            rw [List.cons_append] at e2
            simp only [roW, rBk, slQ, bkW, List.cons_append, List.nil_append]
            iterate 2 refine jq ?_
            refine jg ?_
            iterate 3 refine jo ?_
            refine jDT ?_
            refine je ?_
            refine WS.pcondT rfl rfl ?_
            refine WS.pskip rfl ?_
            refine jq ?_
            refine WS.pblock rfl ?_
            iterate 2 refine jq ?_
            refine WS.pdraw (tb := tb) (by kernel_rfl) rfl (by kernel_rfl) (by kernel_rfl) ?_
            refine jp ?_
            refine WD.pB (tb := tb) true rfl rfl rfl rfl rfl rfl ?_
            iterate 3 refine jp ?_
            refine WD.pP (tb := tb) rfl rfl rfl rfl (evP_index rfl rfl rfl rfl rfl rfl (by omega)) (by simp only [Nat.zero_add, Nat.add_zero, Nat.reduceAdd, Nat.reduceMul, Nat.add_assoc, Nat.mul_one]; exact rfl) ?_
            refine jd ?_
            refine WD.r (tb := tb) rfl rfl rfl rfl (evQ_R rfl (evR_load rfl rfl rfl rfl (cellsR_get0 hx rfl))) ?_
            refine jd ?_
            refine jr ?_
            refine jdDF ?_
            refine jp ?_
            refine WD.fin rfl ?_
            refine WS.pcondF rfl rfl ?_
            refine WS.pskip rfl ?_
            refine jg ?_
            iterate 3 refine jo ?_
            refine jI ?_
            refine WS.poA (tb := tb) rfl rfl rfl rfl (step_R rfl (evR_loads rfl rfl rfl rfl rfl (by exact (cellsR_part0 (R := rwRn) hx (by exact Nat.le_of_ble_eq_true rfl))) (by exact rfl))) (by simp only [List.drop_zero, List.drop_succ_cons, List.take_succ_cons, List.take_zero, rwPl, rwRn, rwVw]; exact rfl) ?_
            refine jn ?_
            refine WS.po (tb := tb) rfl rfl rfl rfl (step_H rfl rfl (evH_append_open rfl rfl rfl rfl rfl rfl rfl rfl rfl (by omega) rfl (Nat.zero_le _) (by omega) (cellsAt_all rfl rfl) (by first | exact rfl | (simp only [Pl_len, Rn_len, Vw_len, vcells, List.length_cons, List.length_nil, cellsI_len, cellsB_len, List.length_set, List.length_replicate, List.length_append, List.length_map, List.length_take, List.length_drop]; omega) | omega) (by first | exact rfl | (simp only [Pl_len, Rn_len, Vw_len, vcells, List.length_cons, List.length_nil, cellsI_len, cellsB_len, List.length_set, List.length_replicate, List.length_append, List.length_map, List.length_take, List.length_drop]; omega) | omega) rfl (by omega))) ?_; (try rw [upd_mem _ rfl]); (try rw [new_mem]); (try simp only [List.set_cons_zero, List.set_cons_succ, List.cons_append, List.nil_append, mem_next, List.length_cons, List.length_nil, Nat.zero_add, Nat.reduceAdd, List.drop_zero, vcells, cellsI_app1, cellsB_app1, cellsI_cons, repsI, repsB, Pl_app1, Pl_reps, Rn_app1, Rn_reps, Vw_app1, Vw_reps])
            refine jo ?_
            refine je ?_
            refine jg ?_
            refine jo ?_
            refine jW ?_
            refine jo ?_
            refine je ?_
            refine WS.nil ?_
            exact ⟨i + 1, h, by omega, (jSn [0,1,4] (by simp [jVb, jOb, jMb, mapL_cellsR, okL_cellsR, roW, rBk, slQ, bkW, e2]) (by simp only [jSl, jOb, jMb, Nat.reduceAdd, Nat.reduceLT, roW, rBk, slQ, bkW, e2] <;> exact jClo))⟩
    · obtain rfl : i = L.length := by omega
      rw [List.take_length]
      generalize foP r L = o at *
      obtain ⟨o, d⟩ := o
      simp only [roW, rBk, List.cons_append, List.nil_append]
      iterate 2 refine jq ?_
      refine jg ?_
      iterate 3 refine jo ?_
      refine jDF ?_
      refine je ?_
      refine WS.pcondF rfl rfl ?_
      refine WS.pout rfl rfl ?_
      rcases o with _ | ⟨y, o⟩ <;> exact ⟨rfl, (), trivial, (jSn [0,1,2] (by simp [jVb, jOb, jMb, mapL_cellsR, okL_cellsR, roW, rBk, slQ, bkW]) (by simp only [jSl, jOb, jMb, Nat.reduceAdd, Nat.reduceLT, roW, rBk, slQ, bkW] <;> exact jClo))⟩
  · rintro _ -
    have hp := foP_put r L
    have hil := insR_len r L
    have hne := foP_ne (r := r) (L := L)
    generalize foP r L = o at *
    obtain ⟨o, d⟩ := o
    cases d with
    | true =>
      simp only [putR, if_true] at hp
      rcases o with _ | ⟨y, o⟩
      · exact absurd rfl (hne rfl)
      · rw [← hp] at hil ⊢
        simp only [List.length_cons] at hil
        simp only [roW, rBk, slQ, bkW, List.cons_append, List.nil_append]
        iterate 2 refine jq ?_
        refine jg ?_
        refine jo ?_
        refine jB false ?_
        refine je ?_
        refine WS.pcondF rfl rfl ?_
        refine WS.pskip rfl ?_
        refine jq ?_
        refine jg ?_
        iterate 2 refine jo ?_
        refine je ?_
        refine WS.pret rfl ⟨.inr rfl, _, rfl, ?_⟩
        exact ⟨_, rfl, [0,2], roW L ++ [some ⟨cellsR rwRn (y :: o), 31, true⟩], .sl (some (1,0)) (o.length + 1) (o.length + 1) true, ⟨rfl, rfl, (by simp [jVb, jOb, jMb, mapL_cellsR, okL_cellsR, roW]), rfl⟩, rfl, Nat.lt_succ_self _, by rw [show o.length = L.length by omega], rfl⟩
    | false =>
      simp only [putR, Bool.false_eq_true, if_false] at hp
      rcases o with _ | ⟨y, o⟩
      · rw [← hp] at hil ⊢
        simp only [List.nil_append, List.length_cons, List.length_nil] at hil ⊢
        have hL0 : L.length = 0 := by omega
        simp only [roW, rBk, slQ, bkW, List.cons_append, List.nil_append]
        iterate 2 refine jq ?_
        refine jg ?_
        refine jo ?_
        refine jB true ?_
        refine je ?_
        refine WS.pcondT rfl rfl ?_
        refine jg ?_
        refine jo ?_
        refine WS.poA (tb := tb) rfl rfl rfl rfl rfl (by simp only [List.drop_zero, List.drop_succ_cons, List.take_succ_cons, List.take_zero, rwPl, rwRn, rwVw]; exact rfl) ?_
        refine jn ?_
        refine WS.po (tb := tb) rfl rfl rfl rfl (step_H rfl rfl (evH_append_nil rfl rfl rfl rfl rfl rfl rfl rfl rfl rfl (by omega) (by omega) (cellsAt_all rfl rfl) (by first | exact rfl | (simp only [Pl_len, Rn_len, Vw_len, vcells, List.length_cons, List.length_nil, cellsI_len, cellsB_len, List.length_set, List.length_replicate, List.length_append, List.length_map, List.length_take, List.length_drop]; omega) | omega) (by omega))) ?_; (try rw [upd_mem _ rfl]); (try rw [new_mem]); (try simp only [List.set_cons_zero, List.set_cons_succ, List.cons_append, List.nil_append, mem_next, List.length_cons, List.length_nil, Nat.zero_add, Nat.reduceAdd, List.drop_zero, vcells, cellsI_app1, cellsB_app1, cellsI_cons, repsI, repsB, Pl_app1, Pl_reps, Rn_app1, Rn_reps, Vw_app1, Vw_reps])
        refine jo ?_
        refine je ?_
        refine jq ?_
        refine jg ?_
        iterate 2 refine jo ?_
        refine je ?_
        refine WS.pret rfl ⟨.inr rfl, _, rfl, ?_⟩
        exact ⟨_, rfl, [0,4], roW L ++ [some ⟨cellsR rwRn [r], 31, true⟩], .sl (some (1,0)) 1 1 true, ⟨rfl, rfl, (by simp [jVb, jOb, jMb, mapL_cellsR, okL_cellsR, roW, Rn_oneW]), rfl⟩, rfl, Nat.lt_succ_self _, by rw [hL0], rfl⟩
      · rw [← hp] at hil ⊢
        simp only [List.length_cons, List.length_append, List.length_nil] at hil
        have hol : o.length ≤ 600 := by omega
        simp only [roW, rBk, slQ, bkW, List.cons_append, List.nil_append]
        iterate 2 refine jq ?_
        refine jg ?_
        refine jo ?_
        refine jB true ?_
        refine je ?_
        refine WS.pcondT rfl rfl ?_
        refine jg ?_
        refine jo ?_
        refine WS.poA (tb := tb) rfl rfl rfl rfl rfl (by simp only [List.drop_zero, List.drop_succ_cons, List.take_succ_cons, List.take_zero, rwPl, rwRn, rwVw]; exact rfl) ?_
        refine jn ?_
        refine WS.po (tb := tb) rfl rfl rfl rfl (step_H rfl rfl (evH_append_open rfl rfl rfl rfl rfl rfl rfl rfl rfl (by omega) rfl (Nat.zero_le _) (by omega) (cellsAt_all rfl rfl) (by first | exact rfl | (simp only [Pl_len, Rn_len, Vw_len, vcells, List.length_cons, List.length_nil, cellsI_len, cellsB_len, List.length_set, List.length_replicate, List.length_append, List.length_map, List.length_take, List.length_drop]; omega) | omega) (by first | exact rfl | (simp only [Pl_len, Rn_len, Vw_len, vcells, List.length_cons, List.length_nil, cellsI_len, cellsB_len, List.length_set, List.length_replicate, List.length_append, List.length_map, List.length_take, List.length_drop]; omega) | omega) rfl (by omega))) ?_; (try rw [upd_mem _ rfl]); (try rw [new_mem]); (try simp only [List.set_cons_zero, List.set_cons_succ, List.cons_append, List.nil_append, mem_next, List.length_cons, List.length_nil, Nat.zero_add, Nat.reduceAdd, List.drop_zero, vcells, cellsI_app1, cellsB_app1, cellsI_cons, repsI, repsB, Pl_app1, Pl_reps, Rn_app1, Rn_reps, Vw_app1, Vw_reps])
        refine jo ?_
        refine je ?_
        refine jq ?_
        refine jg ?_
        iterate 2 refine jo ?_
        refine je ?_
        refine WS.pret rfl ⟨.inr rfl, _, rfl, ?_⟩
        exact ⟨_, rfl, [0,4], roW L ++ [some ⟨cellsR rwRn (y :: (o ++ [r])), 31, true⟩], .sl (some (1,0)) (o.length + 1 + 1) (o.length + 1 + 1) true, ⟨rfl, rfl, (by simp [jVb, jOb, jMb, mapL_cellsR, okL_cellsR, roW]), rfl⟩, rfl, Nat.lt_succ_self _, by rw [show o.length + 1 = L.length by omega], rfl⟩
end Go.Proofs.Ytpogfelbimcglaa.Am

