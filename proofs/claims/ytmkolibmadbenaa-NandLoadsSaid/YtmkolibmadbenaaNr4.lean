/- Functions of the flash, walked. Conditions: those of each theorem. -/
import Derived.Test.YtmkolibmadbenaaNr1
import Derived.Test.YtmkolibmadbenaaNd5
import Derived.Test.YtmkolibmadbenaaNd6
namespace Go.Proofs.Ytmkolibmadbenaa.Am
open Go.Proofs
set_option maxRecDepth 1000000
set_option maxHeartbeats 4000000
set_option linter.unusedSimpArgs false
set_option linter.unusedVariables false
theorem rread_no (x : NS) (z : Int) (np : Nat) (e : Int) (hp : (x.bk.length : Int) * x.p = (np : Int)) (hnp : np ≤ 10000) (hbk : x.bk.length ≤ 1000) (h : ((z < 0 ∨ (np : Int) ≤ z) ∧ e = 1) ∨ (¬ (z < 0 ∨ (np : Int) ≤ z) ∧ x.off = true ∧ e = 7)) :
    FM Try.prog 20 [.p (some (4,0)), .i .i64 z] (rfM x) (fun v M' => v = .tup [.sl none 0 0 false, .i .i64 e] ∧ M' = rfM x) := by
  refine FM.pbody (tb := tb) (fn := Try.f20) rfl rfl ?_
  simp only [argS, Nat.reduceAdd, rfM, List.length_cons, List.length_nil]
  rcases h with ⟨h, rfl⟩ | ⟨h, ho, rfl⟩
  · by_cases h0 : z < 0
    · refine WS.pseq rfl ?_
      refine jg ?_
      iterate 2 refine jo ?_
      refine je ?_
      iterate 2 refine jq ?_
      refine WS.pdraw (tb := tb) (by kernel_rfl) rfl (by kernel_rfl) (by kernel_rfl) ?_
      refine jp ?_
      refine jdDT ?_
      refine jp ?_
      iterate 4 refine jno ?_
      refine WD.no1 rfl rfl rfl rfl ?_
      iterate 3 refine jno ?_
      refine WD.no1 rfl rfl rfl rfl ?_
      iterate 2 refine jno ?_
      refine jp ?_
      refine WD.fin rfl ?_
      refine WS.pcondT rfl rfl ?_
      refine jq ?_
      refine jg ?_
      iterate 2 refine jo ?_
      refine je ?_
      refine WS.pret rfl ⟨.inr rfl, _, rfl, ?_⟩
      exact ⟨_, rfl, rfl, rfl⟩
    · refine WS.pseq rfl ?_
      refine jg ?_
      iterate 2 refine jo ?_
      refine je ?_
      iterate 2 refine jq ?_
      refine WS.pdraw (tb := tb) (by kernel_rfl) rfl (by kernel_rfl) (by kernel_rfl) ?_
      refine jp ?_
      refine jdDF ?_
      iterate 4 refine jp ?_
      refine jd ?_
      refine jr ?_
      iterate 2 refine jp ?_
      refine jd ?_
      refine jr ?_
      refine WD.p (tb := tb) rfl rfl rfl rfl (evP_mulV rfl rfl rfl (by assumption) (by simp only [lo]; omega) (by simp only [Am.hi]; omega)) ?_
      refine jdDT ?_
      refine jp ?_
      refine WD.fin rfl ?_
      refine WS.pcondT rfl rfl ?_
      refine jq ?_
      refine jg ?_
      iterate 2 refine jo ?_
      refine je ?_
      refine WS.pret rfl ⟨.inr rfl, _, rfl, ?_⟩
      exact ⟨_, rfl, rfl, rfl⟩
  · simp only [ho]
    simp only [Bool.not_true]
    refine jq ?_
    refine jg ?_
    iterate 2 refine jo ?_
    refine je ?_
    iterate 2 refine jq ?_
    refine WS.pdraw (tb := tb) (by kernel_rfl) rfl (by kernel_rfl) (by kernel_rfl) ?_
    refine jp ?_
    refine jdDF ?_
    iterate 4 refine jp ?_
    refine jd ?_
    refine jr ?_
    iterate 2 refine jp ?_
    refine jd ?_
    refine jr ?_
    refine WD.p (tb := tb) rfl rfl rfl rfl (evP_mulV rfl rfl rfl (by assumption) (by simp only [lo]; omega) (by simp only [Am.hi]; omega)) ?_
    refine jdDF ?_
    refine jp ?_
    refine WD.fin rfl ?_
    refine WS.pcondF rfl rfl ?_
    refine WS.pskip rfl ?_
    iterate 2 refine jq ?_
    refine jg ?_
    iterate 2 refine jo ?_
    refine jP ?_
    refine jo ?_
    refine jB true ?_
    refine je ?_
    refine WS.pcondT rfl rfl ?_
    refine jq ?_
    refine jg ?_
    iterate 2 refine jo ?_
    refine je ?_
    refine WS.pret rfl ⟨.inr rfl, _, rfl, ?_⟩
    exact ⟨_, rfl, rfl, rfl⟩
theorem rread_ok (x : NS) (page np : Nat) (hp : (x.bk.length : Int) * x.p = (np : Int)) (hnp : np ≤ 10000) (hbk : x.bk.length ≤ 1000) (h : page < np) (ho : x.off = false) (hbs : x.bs.length = np * 68) (hr : x.rd ≤ 1000000) (hr0 : 0 ≤ x.rd) :
    FM Try.prog 20 [.p (some (4,0)), .i .i64 page] (rfM x) (fun v M' => v = .tup [.sl (some (5,0)) 68 68 true, .i .i64 0] ∧ M' = rfM { x with rd := x.rd + 1 } ++ [some ⟨cellsR (rwI .u8) ((x.bs.drop (page * 68)).take 68), 5, true⟩]) := by
  have hz : (page + 1) * 68 - page * 68 = 68 := by omega
  refine FM.pbodyV (tb := tb) (fn := Try.f20) rfl rfl ?_
  simp only [argS, Nat.reduceAdd, rfM, List.length_cons, List.length_nil]
  simp only [ho]
  simp only [Bool.not_false]
  refine jq ?_
  refine jg ?_
  iterate 2 refine jo ?_
  refine je ?_
  iterate 2 refine jq ?_
  refine WS.pdraw (tb := tb) (by kernel_rfl) rfl (by kernel_rfl) (by kernel_rfl) ?_
  refine jp ?_
  refine WD.pB (tb := tb) false rfl rfl rfl rfl rfl rfl ?_
  iterate 4 refine jp ?_
  refine jd ?_
  refine jr ?_
  iterate 2 refine jp ?_
  refine jd ?_
  refine jr ?_
  refine WD.p (tb := tb) rfl rfl rfl rfl (evP_mulV rfl rfl rfl (by assumption) (by simp only [lo]; omega) (by simp only [Am.hi]; omega)) ?_
  refine jdDF ?_
  refine jp ?_
  refine WD.fin rfl ?_
  refine WS.pcondF rfl rfl ?_
  refine WS.pskip rfl ?_
  iterate 2 refine jq ?_
  refine jg ?_
  iterate 2 refine jo ?_
  refine jP ?_
  refine jo ?_
  refine jB false ?_
  refine je ?_
  refine WS.pcondF rfl rfl ?_
  refine WS.pskip rfl ?_
  refine jq ?_
  refine jg ?_
  iterate 2 refine jo ?_
  refine jP ?_
  refine jo ?_
  refine jW ?_
  refine jo ?_
  refine jP ?_
  refine js ?_
  refine je ?_
  refine jq ?_
  refine jg ?_
  refine jn ?_
  iterate 2 refine jo ?_
  refine jP ?_
  iterate 2 refine jo ?_
  refine jW ?_
  refine jo ?_
  iterate 2 refine jW ?_
  refine WS.poV (tb := tb) rfl rfl rfl rfl (step_P (evP_sliceC (a := (page*68)) (b := ((page+1)*68)) rfl rfl rfl rfl rfl rfl (by first | exact .inl ⟨rfl, rfl⟩ | exact .inr ⟨_, _, rfl, rfl⟩ | exact .inr ⟨_, _, rfl, by first | assumption | omega⟩ | exact .inr ⟨_, _, rfl, (Int.toNat_of_nonneg (by omega)).symm⟩) (by first | exact .inl ⟨rfl, rfl⟩ | exact .inr ⟨_, _, rfl, rfl⟩ | exact .inr ⟨_, _, rfl, by first | assumption | omega⟩ | exact .inr ⟨_, _, rfl, (Int.toNat_of_nonneg (by omega)).symm⟩) (by omega) (by omega) (by omega))) (by simp only [hz, Nat.mul_one, Nat.zero_add]; exact rfl) ?_
  refine WS.po (tb := tb) rfl rfl rfl rfl (step_H rfl rfl (evH_append_empty rfl rfl rfl rfl rfl rfl rfl rfl rfl (by omega) (by omega) (cellsAt_rows (R := rwI .u8) (k := page * 68) rfl rfl (by simp only [rwI, Nat.mul_one]) (by omega)) (by first | exact rfl | (simp only [Bk_len, vcells, List.length_cons, List.length_nil, cellsI_len, cellsB_len, List.length_set, List.length_replicate, List.length_append, List.length_map, List.length_take, List.length_drop]; omega) | omega) (by omega))) ?_; (try rw [upd_mem _ rfl]); (try rw [new_mem]); (try simp only [List.set_cons_zero, List.set_cons_succ, List.cons_append, List.nil_append, mem_next, List.length_cons, List.length_nil, Nat.zero_add, Nat.reduceAdd, List.drop_zero, vcells, cellsI_app1, cellsB_app1, cellsI_cons, repsI, repsB, Bk_app1, Bk_reps])
  iterate 2 refine jo ?_
  refine je ?_
  refine WS.pret rfl ⟨.inr rfl, _, rfl, ?_⟩
  exact ⟨_, rfl, [0,1,2,3,4,6], rfM { x with rd := x.rd + 1 } ++ [some ⟨cellsR (rwI .u8) ((x.bs.drop (page * 68)).take 68), 5, true⟩], .tup [.sl (some (5,0)) 68 68 true, .i .i64 0], ⟨rfl, rfl, (by simp [jVb, jOb, jMb, mapL_cellsR, okL_cellsR, rfM, ho, Bool.not_false]), rfl⟩, rfl, by simp [okV, okL, rfM], rfl, by simp [rfM, ho]⟩
theorem rimage_walk (x : NS) (h0 : 0 < x.bs.length) (hm : x.bs.length ≤ 1000000) (hk : x.bk.length ≤ 1000) (hb : ∀ y ∈ x.bk, 0 ≤ y.next ∧ y.next ≤ 255) :
    FM Try.prog 41 [.p (some (4,0))] (rfM x) (fun v M' => v = .sl (some (5,0)) (imI x).length (imI x).length true ∧ M' = rfM x ++ [some ⟨cellsR (rwI .u8) (imI x), 5, true⟩]) := by
  refine FM.pbodyV (tb := tb) (fn := Try.f41) rfl rfl ?_
  simp only [argS, Nat.reduceAdd, rfM, List.length_cons, List.length_nil]
  refine jq ?_
  refine jg ?_
  refine jo ?_
  refine je ?_
  refine jq ?_
  refine jg ?_
  refine jn ?_
  iterate 2 refine jo ?_
  refine jP ?_
  refine jo ?_
  refine WS.po (tb := tb) rfl rfl rfl rfl (step_H rfl rfl (evH_append_empty rfl rfl rfl rfl rfl rfl rfl rfl rfl (by omega) (by omega) (cellsAt_row (R := rwI .u8) rfl (by simp [rwI])) (by first | exact rfl | (simp only [Bk_len, vcells, List.length_cons, List.length_nil, cellsI_len, cellsB_len, List.length_set, List.length_replicate, List.length_append, List.length_map, List.length_take, List.length_drop]; omega) | omega) (by omega))) ?_; (try rw [upd_mem _ rfl]); (try rw [new_mem]); (try simp only [List.set_cons_zero, List.set_cons_succ, List.cons_append, List.nil_append, mem_next, List.length_cons, List.length_nil, Nat.zero_add, Nat.reduceAdd, List.drop_zero, vcells, cellsI_app1, cellsB_app1, cellsI_cons, repsI, repsB, Bk_app1, Bk_reps])
  refine jo ?_
  refine je ?_
  iterate 2 refine jq ?_
  refine jg ?_
  refine jo ?_
  refine je ?_
  refine WS.pblock rfl ?_
  refine WS.ploopI (σ := Nat) (τ := Unit) (fun i => [(0, .p (some (4,0))), (3, .sl (some (5,0)) (x.bs ++ tlI x.bk i).length (x.bs ++ tlI x.bk i).length true), (4, .i .i64 i)])
    (fun i => rfM x ++ [some ⟨cellsR (rwI .u8) (x.bs ++ tlI x.bk i), 5, true⟩]) (fun i => i ≤ x.bk.length) (fun i => x.bk.length - i)
    (fun _ => [(3, .sl (some (5,0)) (imI x).length (imI x).length true)]) (fun _ => rfM x ++ [some ⟨cellsR (rwI .u8) (imI x), 5, true⟩]) (fun _ => True) 0 [0,1,2,3,4,6] 0 rfl (Nat.zero_le _) (jSb (by simp [jVb, jOb, jMb, mapL_cellsR, okL_cellsR, rfM, tlI_0, List.append_nil]) (by simp only [jSl, jOb, jMb, Nat.reduceAdd, Nat.reduceLT, rfM, tlI_0, List.append_nil] <;> exact jClo)) rfl ?_ ?_
  · intro i hi
    have hl := tlI_len x.bk i hi
    have hla : (x.bs ++ tlI x.bk i).length = x.bs.length + 2 * i := by rw [List.length_append, hl]
    simp only [rfM, hla, List.cons_append, List.nil_append]
    by_cases hlt : i < x.bk.length
    · obtain ⟨y, hy⟩ : ∃ y, x.bk[i]? = some y := ⟨_, List.getElem?_eq_getElem hlt⟩
      have hyb := hb y (List.mem_of_getElem? hy)
      have e1 : (x.bs ++ tlI x.bk i) ++ [flg y, y.next] = x.bs ++ tlI x.bk (i + 1) := by rw [tlI_succ hy, List.append_assoc]
      have e2 : (x.bs ++ tlI x.bk (i + 1)).length = x.bs.length + 2 * i + 2 := by rw [List.length_append, tlI_len x.bk (i + 1) (by omega)]; omega
      have g1 := map_get Bk.bad hy
      have g2 := map_get Bk.torn hy
      have g3 := map_get Bk.next hy
      obtain ⟨yn, yb, yt, yw⟩ := y
      simp only at hyb g1 g2 g3
      cases yb with
      | true =>
        cases yt with
        | true =>
          have e3 : (x.bs ++ tlI x.bk i) ++ [1 + 2, yn] = x.bs ++ tlI x.bk (i + 1) := by rw [← e1]; simp [flg]
          iterate 2 refine jq ?_
          refine jg ?_
          iterate 3 refine jo ?_
          refine jP ?_
          refine jo ?_
          refine jDT ?_
          refine je ?_
          refine WS.pcondT rfl rfl ?_
          refine WS.pskip rfl ?_
          refine jq ?_
          refine WS.pblock rfl ?_
          refine jq ?_
          refine jg ?_
          refine jo ?_
          refine je ?_
          iterate 2 refine jq ?_
          refine jg ?_
          iterate 2 refine jo ?_
          refine jP ?_
          iterate 2 refine jo ?_
          refine jI ?_
          refine WS.po (tb := tb) rfl rfl rfl rfl (step_R rfl (evR_load rfl rfl rfl rfl (cellsB_get g1))) ?_
          refine je ?_
          refine WS.pcondT rfl rfl ?_
          refine jg ?_
          refine jo ?_
          refine je ?_
          iterate 2 refine jq ?_
          refine jg ?_
          iterate 2 refine jo ?_
          refine jP ?_
          iterate 2 refine jo ?_
          refine jI ?_
          refine WS.po (tb := tb) rfl rfl rfl rfl (step_R rfl (evR_load rfl rfl rfl rfl (cellsB_get g2))) ?_
          refine je ?_
          refine WS.pcondT rfl rfl ?_
          refine jg ?_
          refine jo ?_
          refine jW ?_
          refine jo ?_
          refine je ?_
          refine jg ?_
          iterate 4 refine jo ?_
          refine jP ?_
          iterate 2 refine jo ?_
          refine jI ?_
          refine WS.po (tb := tb) rfl rfl rfl rfl (step_R rfl (evR_load rfl rfl rfl rfl (cellsI_get g3))) ?_
          refine jW ?_
          refine jn ?_
          refine WS.po (tb := tb) rfl rfl rfl rfl (step_H rfl rfl (evH_append_open rfl rfl rfl rfl rfl rfl rfl rfl rfl (by omega) rfl (Nat.zero_le _) (by omega) (cellsAt_all rfl rfl) (by first | exact rfl | (simp only [Bk_len, vcells, List.length_cons, List.length_nil, cellsI_len, cellsB_len, List.length_set, List.length_replicate, List.length_append, List.length_map, List.length_take, List.length_drop, hla]; omega) | omega) (by first | exact rfl | (simp only [Bk_len, vcells, List.length_cons, List.length_nil, cellsI_len, cellsB_len, List.length_set, List.length_replicate, List.length_append, List.length_map, List.length_take, List.length_drop, hla]; omega) | omega) rfl (by omega))) ?_; (try rw [upd_mem _ rfl]); (try rw [new_mem]); (try simp only [List.set_cons_zero, List.set_cons_succ, List.cons_append, List.nil_append, mem_next, List.length_cons, List.length_nil, Nat.zero_add, Nat.reduceAdd, List.drop_zero, vcells, cellsI_app1, cellsB_app1, cellsI_cons, repsI, repsB, Bk_app1, Bk_reps, cellsI_app2, e3])
          refine jo ?_
          refine je ?_
          refine jg ?_
          refine jo ?_
          refine jW ?_
          refine jo ?_
          refine je ?_
          refine WS.nil ?_
          exact ⟨i + 1, by omega, by omega, (jSn [0,1,2,3,4,7] (by simp [jVb, jOb, jMb, mapL_cellsR, okL_cellsR, rfM, e2]) (by simp only [jSl, jOb, jMb, Nat.reduceAdd, Nat.reduceLT, rfM, e2] <;> exact jClo))⟩
        | false =>
          have e3 : (x.bs ++ tlI x.bk i) ++ [1, yn] = x.bs ++ tlI x.bk (i + 1) := by rw [← e1]; simp [flg]
          iterate 2 refine jq ?_
          refine jg ?_
          iterate 3 refine jo ?_
          refine jP ?_
          refine jo ?_
          refine jDT ?_
          refine je ?_
          refine WS.pcondT rfl rfl ?_
          refine WS.pskip rfl ?_
          refine jq ?_
          refine WS.pblock rfl ?_
          refine jq ?_
          refine jg ?_
          refine jo ?_
          refine je ?_
          iterate 2 refine jq ?_
          refine jg ?_
          iterate 2 refine jo ?_
          refine jP ?_
          iterate 2 refine jo ?_
          refine jI ?_
          refine WS.po (tb := tb) rfl rfl rfl rfl (step_R rfl (evR_load rfl rfl rfl rfl (cellsB_get g1))) ?_
          refine je ?_
          refine WS.pcondT rfl rfl ?_
          refine jg ?_
          refine jo ?_
          refine je ?_
          iterate 2 refine jq ?_
          refine jg ?_
          iterate 2 refine jo ?_
          refine jP ?_
          iterate 2 refine jo ?_
          refine jI ?_
          refine WS.po (tb := tb) rfl rfl rfl rfl (step_R rfl (evR_load rfl rfl rfl rfl (cellsB_get g2))) ?_
          refine je ?_
          refine WS.pcondF rfl rfl ?_
          refine WS.pskip rfl ?_
          refine jg ?_
          iterate 4 refine jo ?_
          refine jP ?_
          iterate 2 refine jo ?_
          refine jI ?_
          refine WS.po (tb := tb) rfl rfl rfl rfl (step_R rfl (evR_load rfl rfl rfl rfl (cellsI_get g3))) ?_
          refine jW ?_
          refine jn ?_
          refine WS.po (tb := tb) rfl rfl rfl rfl (step_H rfl rfl (evH_append_open rfl rfl rfl rfl rfl rfl rfl rfl rfl (by omega) rfl (Nat.zero_le _) (by omega) (cellsAt_all rfl rfl) (by first | exact rfl | (simp only [Bk_len, vcells, List.length_cons, List.length_nil, cellsI_len, cellsB_len, List.length_set, List.length_replicate, List.length_append, List.length_map, List.length_take, List.length_drop, hla]; omega) | omega) (by first | exact rfl | (simp only [Bk_len, vcells, List.length_cons, List.length_nil, cellsI_len, cellsB_len, List.length_set, List.length_replicate, List.length_append, List.length_map, List.length_take, List.length_drop, hla]; omega) | omega) rfl (by omega))) ?_; (try rw [upd_mem _ rfl]); (try rw [new_mem]); (try simp only [List.set_cons_zero, List.set_cons_succ, List.cons_append, List.nil_append, mem_next, List.length_cons, List.length_nil, Nat.zero_add, Nat.reduceAdd, List.drop_zero, vcells, cellsI_app1, cellsB_app1, cellsI_cons, repsI, repsB, Bk_app1, Bk_reps, cellsI_app2, e3])
          refine jo ?_
          refine je ?_
          refine jg ?_
          refine jo ?_
          refine jW ?_
          refine jo ?_
          refine je ?_
          refine WS.nil ?_
          exact ⟨i + 1, by omega, by omega, (jSn [0,1,2,3,4,7] (by simp [jVb, jOb, jMb, mapL_cellsR, okL_cellsR, rfM, e2]) (by simp only [jSl, jOb, jMb, Nat.reduceAdd, Nat.reduceLT, rfM, e2] <;> exact jClo))⟩
      | false =>
        cases yt with
        | true =>
          have e3 : (x.bs ++ tlI x.bk i) ++ [0 + 2, yn] = x.bs ++ tlI x.bk (i + 1) := by rw [← e1]; simp [flg]
          iterate 2 refine jq ?_
          refine jg ?_
          iterate 3 refine jo ?_
          refine jP ?_
          refine jo ?_
          refine jDT ?_
          refine je ?_
          refine WS.pcondT rfl rfl ?_
          refine WS.pskip rfl ?_
          refine jq ?_
          refine WS.pblock rfl ?_
          refine jq ?_
          refine jg ?_
          refine jo ?_
          refine je ?_
          iterate 2 refine jq ?_
          refine jg ?_
          iterate 2 refine jo ?_
          refine jP ?_
          iterate 2 refine jo ?_
          refine jI ?_
          refine WS.po (tb := tb) rfl rfl rfl rfl (step_R rfl (evR_load rfl rfl rfl rfl (cellsB_get g1))) ?_
          refine je ?_
          refine WS.pcondF rfl rfl ?_
          refine WS.pskip rfl ?_
          iterate 2 refine jq ?_
          refine jg ?_
          iterate 2 refine jo ?_
          refine jP ?_
          iterate 2 refine jo ?_
          refine jI ?_
          refine WS.po (tb := tb) rfl rfl rfl rfl (step_R rfl (evR_load rfl rfl rfl rfl (cellsB_get g2))) ?_
          refine je ?_
          refine WS.pcondT rfl rfl ?_
          refine jg ?_
          refine jo ?_
          refine jW ?_
          refine jo ?_
          refine je ?_
          refine jg ?_
          iterate 4 refine jo ?_
          refine jP ?_
          iterate 2 refine jo ?_
          refine jI ?_
          refine WS.po (tb := tb) rfl rfl rfl rfl (step_R rfl (evR_load rfl rfl rfl rfl (cellsI_get g3))) ?_
          refine jW ?_
          refine jn ?_
          refine WS.po (tb := tb) rfl rfl rfl rfl (step_H rfl rfl (evH_append_open rfl rfl rfl rfl rfl rfl rfl rfl rfl (by omega) rfl (Nat.zero_le _) (by omega) (cellsAt_all rfl rfl) (by first | exact rfl | (simp only [Bk_len, vcells, List.length_cons, List.length_nil, cellsI_len, cellsB_len, List.length_set, List.length_replicate, List.length_append, List.length_map, List.length_take, List.length_drop, hla]; omega) | omega) (by first | exact rfl | (simp only [Bk_len, vcells, List.length_cons, List.length_nil, cellsI_len, cellsB_len, List.length_set, List.length_replicate, List.length_append, List.length_map, List.length_take, List.length_drop, hla]; omega) | omega) rfl (by omega))) ?_; (try rw [upd_mem _ rfl]); (try rw [new_mem]); (try simp only [List.set_cons_zero, List.set_cons_succ, List.cons_append, List.nil_append, mem_next, List.length_cons, List.length_nil, Nat.zero_add, Nat.reduceAdd, List.drop_zero, vcells, cellsI_app1, cellsB_app1, cellsI_cons, repsI, repsB, Bk_app1, Bk_reps, cellsI_app2, e3])
          refine jo ?_
          refine je ?_
          refine jg ?_
          refine jo ?_
          refine jW ?_
          refine jo ?_
          refine je ?_
          refine WS.nil ?_
          exact ⟨i + 1, by omega, by omega, (jSn [0,1,2,3,4,7] (by simp [jVb, jOb, jMb, mapL_cellsR, okL_cellsR, rfM, e2]) (by simp only [jSl, jOb, jMb, Nat.reduceAdd, Nat.reduceLT, rfM, e2] <;> exact jClo))⟩
        | false =>
          have e3 : (x.bs ++ tlI x.bk i) ++ [0, yn] = x.bs ++ tlI x.bk (i + 1) := by rw [← e1]; simp [flg]
          iterate 2 refine jq ?_
          refine jg ?_
          iterate 3 refine jo ?_
          refine jP ?_
          refine jo ?_
          refine jDT ?_
          refine je ?_
          refine WS.pcondT rfl rfl ?_
          refine WS.pskip rfl ?_
          refine jq ?_
          refine WS.pblock rfl ?_
          refine jq ?_
          refine jg ?_
          refine jo ?_
          refine je ?_
          iterate 2 refine jq ?_
          refine jg ?_
          iterate 2 refine jo ?_
          refine jP ?_
          iterate 2 refine jo ?_
          refine jI ?_
          refine WS.po (tb := tb) rfl rfl rfl rfl (step_R rfl (evR_load rfl rfl rfl rfl (cellsB_get g1))) ?_
          refine je ?_
          refine WS.pcondF rfl rfl ?_
          refine WS.pskip rfl ?_
          iterate 2 refine jq ?_
          refine jg ?_
          iterate 2 refine jo ?_
          refine jP ?_
          iterate 2 refine jo ?_
          refine jI ?_
          refine WS.po (tb := tb) rfl rfl rfl rfl (step_R rfl (evR_load rfl rfl rfl rfl (cellsB_get g2))) ?_
          refine je ?_
          refine WS.pcondF rfl rfl ?_
          refine WS.pskip rfl ?_
          refine jg ?_
          iterate 4 refine jo ?_
          refine jP ?_
          iterate 2 refine jo ?_
          refine jI ?_
          refine WS.po (tb := tb) rfl rfl rfl rfl (step_R rfl (evR_load rfl rfl rfl rfl (cellsI_get g3))) ?_
          refine jW ?_
          refine jn ?_
          refine WS.po (tb := tb) rfl rfl rfl rfl (step_H rfl rfl (evH_append_open rfl rfl rfl rfl rfl rfl rfl rfl rfl (by omega) rfl (Nat.zero_le _) (by omega) (cellsAt_all rfl rfl) (by first | exact rfl | (simp only [Bk_len, vcells, List.length_cons, List.length_nil, cellsI_len, cellsB_len, List.length_set, List.length_replicate, List.length_append, List.length_map, List.length_take, List.length_drop, hla]; omega) | omega) (by first | exact rfl | (simp only [Bk_len, vcells, List.length_cons, List.length_nil, cellsI_len, cellsB_len, List.length_set, List.length_replicate, List.length_append, List.length_map, List.length_take, List.length_drop, hla]; omega) | omega) rfl (by omega))) ?_; (try rw [upd_mem _ rfl]); (try rw [new_mem]); (try simp only [List.set_cons_zero, List.set_cons_succ, List.cons_append, List.nil_append, mem_next, List.length_cons, List.length_nil, Nat.zero_add, Nat.reduceAdd, List.drop_zero, vcells, cellsI_app1, cellsB_app1, cellsI_cons, repsI, repsB, Bk_app1, Bk_reps, cellsI_app2, e3])
          refine jo ?_
          refine je ?_
          refine jg ?_
          refine jo ?_
          refine jW ?_
          refine jo ?_
          refine je ?_
          refine WS.nil ?_
          exact ⟨i + 1, by omega, by omega, (jSn [0,1,2,3,4,7] (by simp [jVb, jOb, jMb, mapL_cellsR, okL_cellsR, rfM, e2]) (by simp only [jSl, jOb, jMb, Nat.reduceAdd, Nat.reduceLT, rfM, e2] <;> exact jClo))⟩
    · obtain rfl : i = x.bk.length := by omega
      iterate 2 refine jq ?_
      refine jg ?_
      iterate 3 refine jo ?_
      refine jP ?_
      refine jo ?_
      refine jDF ?_
      refine je ?_
      refine WS.pcondF rfl rfl ?_
      refine WS.pout rfl rfl ?_
      exact ⟨rfl, (), trivial, (jSn [0,1,2,3,4,5] (by simp [jVb, jOb, jMb, mapL_cellsR, okL_cellsR, rfM, imI, hla]) (by simp only [jSl, jOb, jMb, Nat.reduceAdd, Nat.reduceLT, rfM, imI, hla] <;> exact jClo))⟩
  · rintro _ -
    simp only [rfM, List.cons_append, List.nil_append]
    refine jq ?_
    refine jg ?_
    iterate 2 refine jo ?_
    refine je ?_
    refine WS.pret rfl ⟨.inr rfl, _, rfl, ?_⟩
    exact ⟨_, rfl, [0,1,2,3,4,5], rfM x ++ [some ⟨cellsR (rwI .u8) (imI x), 5, true⟩], .sl (some (5,0)) (imI x).length (imI x).length true, ⟨rfl, rfl, (by simp [jVb, jOb, jMb, mapL_cellsR, okL_cellsR, rfM]), rfl⟩, rfl, by simp [okV, rfM], rfl, rfl⟩
theorem bk_maps (b : Nat) : (List.replicate b (⟨0, false, false, 0⟩ : Bk)).map Bk.bad = List.replicate b false ∧ (List.replicate b (⟨0, false, false, 0⟩ : Bk)).map Bk.torn = List.replicate b false ∧ (List.replicate b (⟨0, false, false, 0⟩ : Bk)).map Bk.next = List.replicate b 0 := by
  simp
theorem rnew_ok (b p np : Nat) (h1 : 1 ≤ b) (h2 : b ≤ 64) (h3 : 1 ≤ p) (h4 : p ≤ 32) (hp : (b : Int) * p = (np : Int)) (hnp : np ≤ 10000) : FM Try.prog 16 [.i .i64 b, .i .i64 p] [] (fun v M' => v = .p (some (4,0)) ∧ M' = rfM (ns0 b p np)) := by
  have hn : (np : Int) * 68 = ((np * 68 : Nat) : Int) := by omega
  obtain ⟨m1, m2, m3⟩ := bk_maps b
  refine FM.pbodyV (tb := tb) (fn := Try.f16) rfl rfl ?_
  simp only [argS, Nat.reduceAdd, List.length_cons, List.length_nil]
  refine jq ?_
  refine jg ?_
  refine jo ?_
  refine je ?_
  refine jq ?_
  refine jg ?_
  iterate 2 refine jo ?_
  refine WS.poA (tb := tb) rfl rfl rfl rfl rfl (by simp only [vcells, setL, ll, nl, nz, Nat.reduceAdd, Nat.reduceMul, Int.reduceToNat]; exact rfl) ?_
  refine jn ?_
  refine jo ?_
  refine je ?_
  refine jq ?_
  refine jg ?_
  iterate 3 refine jo ?_
  refine WS.po (tb := tb) rfl rfl rfl rfl (step_P (evP_mulV rfl rfl rfl (by assumption) (by simp only [lo]; omega) (by simp only [Am.hi]; omega))) ?_
  refine WS.po (tb := tb) rfl rfl rfl rfl (step_P (evP_mulV rfl rfl rfl (by assumption) (by simp only [lo]; omega) (by simp only [Am.hi]; omega))) ?_
  refine WS.po (tb := tb) rfl rfl rfl rfl (step_H rfl rfl (evH_make (m := (np*68)) (n := (np*68)) rfl rfl rfl rfl rfl rfl rfl rfl (by omega) (by omega) (by omega) (Nat.le_refl _) (by omega) (by omega))) ?_; (try rw [upd_mem _ rfl]); (try rw [new_mem]); (try simp only [List.set_cons_zero, List.set_cons_succ, List.cons_append, List.nil_append, mem_next, List.length_cons, List.length_nil, Nat.zero_add, Nat.reduceAdd, List.drop_zero, vcells, cellsI_app1, cellsB_app1, cellsI_cons, repsI, repsB, Bk_app1, Bk_reps])
  refine jo ?_
  refine jP ?_
  refine js ?_
  refine je ?_
  iterate 2 refine jq ?_
  refine jg ?_
  refine jo ?_
  refine je ?_
  refine WS.pblock rfl ?_
  refine WS.ploopI (σ := Nat) (τ := Unit) (fun i => [(0, .i .i64 b), (1, .i .i64 p), (5, .p (some (0,0))), (6, .i .i64 i)])
    (fun i => [some ⟨[.i .i64 b, .i .i64 p, .sl (some (1,0)) (np * 68) (np * 68) false, .sl none 0 0 false, .sl none 0 0 false, .sl none 0 0 false, .i .i64 (-1), .i .i64 (-1), .b true, .i .i64 0, .i .i64 0, .i .i64 0], 48, true⟩, some ⟨cellsR (rwI .u8) (over2 (List.replicate (np * 68) 0) 0 (List.replicate i 255)), 5, true⟩]) (fun i => i ≤ np * 68) (fun i => np * 68 - i)
    (fun _ => [(0, .i .i64 b), (1, .i .i64 p), (5, .p (some (0,0)))]) (fun _ => [some ⟨[.i .i64 b, .i .i64 p, .sl (some (1,0)) (np * 68) (np * 68) false, .sl none 0 0 false, .sl none 0 0 false, .sl none 0 0 false, .i .i64 (-1), .i .i64 (-1), .b true, .i .i64 0, .i .i64 0, .i .i64 0], 48, true⟩, some ⟨cellsR (rwI .u8) (List.replicate (np * 68) 255), 5, true⟩]) (fun _ => True) 0 [0,1] 0 rfl (Nat.zero_le _) (jSb (by simp [jVb, jOb, jMb, mapL_cellsR, okL_cellsR, List.replicate_zero, over2_nil]) (by simp only [jSl, jOb, jMb, Nat.reduceAdd, Nat.reduceLT, List.replicate_zero, over2_nil] <;> exact jClo)) rfl ?_ ?_
  · intro i hi
    have hl : (over2 (List.replicate (np * 68) (0 : Int)) 0 (List.replicate i 255)).length = np * 68 := (over2_len (by rw [List.length_replicate, List.length_replicate]; omega)).trans List.length_replicate
    by_cases hlt : i < np * 68
    · have hs : (over2 (List.replicate (np * 68) (0 : Int)) 0 (List.replicate i 255)).set (0 + i) 255 = over2 (List.replicate (np * 68) (0 : Int)) 0 (List.replicate (i + 1) 255) := by
        have := over2_set (xs := List.replicate (np * 68) (0 : Int)) (ys := List.replicate (np * 68) 255) (o := 0) (i := i) (y := 255) (by rw [List.getElem?_replicate, if_pos hlt]) (by rw [List.length_replicate, List.length_replicate]; omega)
        rw [List.take_replicate, List.take_replicate, Nat.min_eq_left (by omega), Nat.min_eq_left (by omega)] at this
        exact this
      rw [Nat.zero_add] at hs
      have hst := (cellsI_set (k := .u8) (xs := over2 (List.replicate (np * 68) (0 : Int)) 0 (List.replicate i 255)) (x := 255) (i := i) (by omega)).trans (congrArg _ hs)
      iterate 2 refine jq ?_
      refine jg ?_
      iterate 3 refine jo ?_
      refine jP ?_
      iterate 2 refine jo ?_
      refine jDT ?_
      refine je ?_
      refine WS.pcondT rfl rfl ?_
      refine WS.pskip rfl ?_
      refine jq ?_
      refine WS.pblock rfl ?_
      refine jg ?_
      iterate 2 refine jo ?_
      refine jP ?_
      iterate 2 refine jo ?_
      refine jI ?_
      refine WS.po0 (tb := tb) rfl rfl rfl rfl (step_H rfl rfl (evH_store rfl rfl rfl rfl rfl (Nat.zero_le _) rfl (by simp [vcells]) (by simp only [Bk_len, vcells, List.length_cons, List.length_nil, cellsI_len, cellsB_len, List.length_set, List.length_replicate, List.length_append, List.length_map, List.length_take, List.length_drop, hl]; omega))) ?_; rw [upd_mem _ rfl]; simp only [vcells, List.set_cons_zero, List.set_cons_succ, hst]; (try simp only [setL, List.set_cons_zero, List.set_cons_succ])
      refine je ?_
      refine jg ?_
      refine jo ?_
      refine jW ?_
      refine jo ?_
      refine je ?_
      refine WS.nil ?_
      exact ⟨i + 1, by omega, by omega, (jSn [0,1] (by simp [jVb, jOb, jMb, mapL_cellsR, okL_cellsR]) (by simp only [jSl, jOb, jMb, Nat.reduceAdd, Nat.reduceLT] <;> exact jClo))⟩
    · obtain rfl : i = np * 68 := by omega
      have e := over2_all (xs := List.replicate (np * 68) (0 : Int)) (ys := List.replicate (np * 68) 255) (by simp)
      iterate 2 refine jq ?_
      refine jg ?_
      iterate 3 refine jo ?_
      refine jP ?_
      iterate 2 refine jo ?_
      refine jDF ?_
      refine je ?_
      refine WS.pcondF rfl rfl ?_
      refine WS.pout rfl rfl ?_
      exact ⟨rfl, (), trivial, (jSn [0,1] (by simp [jVb, jOb, jMb, mapL_cellsR, okL_cellsR, e]) (by simp only [jSl, jOb, jMb, Nat.reduceAdd, Nat.reduceLT, e] <;> exact jClo))⟩
  · rintro _ -
    refine jq ?_
    refine jg ?_
    iterate 2 refine jo ?_
    refine WS.po (tb := tb) rfl rfl rfl rfl (step_H rfl rfl (evH_make (m := b) (n := b) rfl rfl rfl rfl rfl rfl rfl rfl (by omega) (by omega) (by omega) (Nat.le_refl _) (by omega) (by omega))) ?_; (try rw [upd_mem _ rfl]); (try rw [new_mem]); (try simp only [List.set_cons_zero, List.set_cons_succ, List.cons_append, List.nil_append, mem_next, List.length_cons, List.length_nil, Nat.zero_add, Nat.reduceAdd, List.drop_zero, vcells, cellsI_app1, cellsB_app1, cellsI_cons, repsI, repsB, Bk_app1, Bk_reps])
    refine jo ?_
    refine jP ?_
    refine js ?_
    refine je ?_
    refine jq ?_
    refine jg ?_
    iterate 2 refine jo ?_
    refine WS.po (tb := tb) rfl rfl rfl rfl (step_H rfl rfl (evH_make (m := b) (n := b) rfl rfl rfl rfl rfl rfl rfl rfl (by omega) (by omega) (by omega) (Nat.le_refl _) (by omega) (by omega))) ?_; (try rw [upd_mem _ rfl]); (try rw [new_mem]); (try simp only [List.set_cons_zero, List.set_cons_succ, List.cons_append, List.nil_append, mem_next, List.length_cons, List.length_nil, Nat.zero_add, Nat.reduceAdd, List.drop_zero, vcells, cellsI_app1, cellsB_app1, cellsI_cons, repsI, repsB, Bk_app1, Bk_reps])
    refine jo ?_
    refine jP ?_
    refine js ?_
    refine je ?_
    refine jq ?_
    refine jg ?_
    iterate 2 refine jo ?_
    refine WS.po (tb := tb) rfl rfl rfl rfl (step_H rfl rfl (evH_make (m := b) (n := b) rfl rfl rfl rfl rfl rfl rfl rfl (by omega) (by omega) (by omega) (Nat.le_refl _) (by omega) (by omega))) ?_; (try rw [upd_mem _ rfl]); (try rw [new_mem]); (try simp only [List.set_cons_zero, List.set_cons_succ, List.cons_append, List.nil_append, mem_next, List.length_cons, List.length_nil, Nat.zero_add, Nat.reduceAdd, List.drop_zero, vcells, cellsI_app1, cellsB_app1, cellsI_cons, repsI, repsB, Bk_app1, Bk_reps])
    refine jo ?_
    refine jP ?_
    refine js ?_
    refine je ?_
    refine jq ?_
    refine jg ?_
    iterate 2 refine jo ?_
    refine je ?_
    refine WS.pret rfl ⟨.inr rfl, _, rfl, ?_⟩
    exact ⟨_, rfl, [1,2,3,4,0], rfM (ns0 b p np), .p (some (4,0)), ⟨rfl, rfl, by simp [jVb, jOb, jMb, mapL_cellsR, okL_cellsR, rfM, ns0, repsB, repsI], rfl⟩, rfl, by simp [okV, rfM], rfl, rfl⟩
end Go.Proofs.Ytmkolibmadbenaa.Am

