/- Functions of the tree and of the law TreePlays, walked. Conditions: those of each theorem. -/
import Derived.Test.YtpogfelbimcglaaAr1
namespace Go.Proofs.Ytpogfelbimcglaa.Am
open Go.Proofs
set_option maxRecDepth 1000000
set_option maxHeartbeats 4000000
set_option linter.unusedSimpArgs false
set_option linter.unusedVariables false
theorem ar_put_no (ps : List Pl) (id : Nat) (fr lv : Int) (l r h a b c : Int) (hl : ∀ p, ps[id]? = some p → p.live = false) (hm : ps.length ≤ 600) (hi : id ≤ 4294967295) :
  FM Try.prog 32 [.p (some (1,0)), .i .u32 id, .agg [.i .u32 l, .i .u32 r, .i .i64 h, .i .i64 a, .i .i64 b, .i .i64 c]] (arM ps fr lv) (fun v M' => v = .i .i64 1 ∧ M' = arM ps fr lv) := by
  refine FM.pbodyV (tb := tb) (fn := Try.f32) rfl rfl ?_
  simp only [argS, Nat.reduceAdd, arM, List.length_cons, List.length_nil]
  refine jq ?_
  refine jg ?_
  refine jn ?_
  refine jo ?_
  refine je ?_
  iterate 2 refine jq ?_
  refine jg ?_
  iterate 2 refine jo ?_
  refine jc [0,1] (ar_has_no ps id fr lv hl hm hi) (by simp [jOb, arM, arR]) (by simp [jEb, jOb, jMb, mapL_cellsR, okL_cellsR, arM, arR]) ?_; rintro _ _ ⟨rfl, rfl⟩ -; simp only [jPg, jMb, ll, Nat.reduceAdd, Nat.reduceLT, Nat.zero_add, if_true, if_false, Nat.reduceSub, reduceIte, mapL_cellsR, Nat.lt_irrefl, Nat.not_lt_zero, Nat.zero_lt_succ, Nat.lt_add_one, arM, arR]
  refine jB true ?_
  refine je ?_
  refine WS.pcondT rfl rfl ?_
  refine jq ?_
  refine jg ?_
  refine jo ?_
  refine je ?_
  refine WS.pret rfl ⟨.inr rfl, _, rfl, ?_⟩
  exact ⟨_, rfl, [0,1], arM ps fr lv, .i .i64 1, ⟨rfl, rfl, by simp [arM, viewP, okL, okV, mapL, mapV, mem_get, mapL_cellsR, okL_cellsR], rfl⟩, rfl, trivial, rfl, rfl⟩
theorem ar_get_yes (ps : List Pl) (id : Nat) (fr lv : Int) (p : Pl) (hp : ps[id]? = some p) (hl : p.live = true) (hm : ps.length ≤ 600) :
  FM Try.prog 34 [.p (some (1,0)), .i .u32 id] (arR ps fr lv) (fun v M' => v = .tup [.agg [.i .u32 p.l, .i .u32 p.r, .i .i64 p.h, .i .i64 p.a, .i .i64 p.b, .i .i64 p.c], .i .i64 0] ∧ M' = arR ps fr lv) := by
  have hid : id < ps.length := (List.getElem?_eq_some_iff.1 hp).1
  refine FM.pbodyV (tb := tb) (fn := Try.f34) rfl rfl ?_
  simp only [argS, Nat.reduceAdd, arR, List.length_cons, List.length_nil]
  refine jq ?_
  refine jg ?_
  refine jn ?_
  refine jo ?_
  refine je ?_
  iterate 2 refine jq ?_
  refine jg ?_
  iterate 2 refine jo ?_
  refine jc [0,1] (ar_has_yes ps id fr lv p hp hl hm) (by simp [jOb, arR]) (by simp [jEb, jOb, jMb, mapL_cellsR, okL_cellsR, arR]) ?_; rintro _ _ ⟨rfl, rfl⟩ -; simp only [jPg, jMb, ll, Nat.reduceAdd, Nat.reduceLT, Nat.zero_add, if_true, if_false, Nat.reduceSub, reduceIte, mapL_cellsR, Nat.lt_irrefl, Nat.not_lt_zero, Nat.zero_lt_succ, Nat.lt_add_one, arR]
  refine jB false ?_
  refine je ?_
  refine WS.pcondF rfl rfl ?_
  refine WS.pskip rfl ?_
  refine jq ?_
  refine jg ?_
  iterate 2 refine jo ?_
  refine jP ?_
  iterate 2 refine jo ?_
  refine jI ?_
  refine jP ?_
  refine WS.poA (tb := tb) rfl rfl rfl rfl (step_R rfl (evR_loads rfl rfl rfl rfl rfl (by exact (cellsR_part (R := rwPl) hp (by exact Nat.le_of_ble_eq_true rfl))) (by exact rfl))) (by simp only [List.drop_zero, List.drop_succ_cons, List.take_succ_cons, List.take_zero, rwPl]; exact rfl) ?_
  refine js ?_
  refine jo ?_
  refine je ?_
  refine WS.pret rfl ⟨.inr rfl, _, rfl, ?_⟩
  exact ⟨_, rfl, [0,1], arR ps fr lv, .tup [.agg [.i .u32 p.l, .i .u32 p.r, .i .i64 p.h, .i .i64 p.a, .i .i64 p.b, .i .i64 p.c], .i .i64 0], ⟨rfl, rfl, by simp [arR, viewP, okL, okV, mapL, mapV, mem_get, mapL_cellsR, okL_cellsR], rfl⟩, rfl, by simp [okV, okL], rfl, rfl⟩
theorem ar_get_no (ps : List Pl) (id : Nat) (fr lv : Int) (hl : ∀ p, ps[id]? = some p → p.live = false) (hm : ps.length ≤ 600) (hi : id ≤ 4294967295) :
  FM Try.prog 34 [.p (some (1,0)), .i .u32 id] (arR ps fr lv) (fun v M' => v = .tup [.agg [.i .u32 0, .i .u32 0, .i .i64 0, .i .i64 0, .i .i64 0, .i .i64 0], .i .i64 1] ∧ M' = arR ps fr lv) := by
  refine FM.pbodyV (tb := tb) (fn := Try.f34) rfl rfl ?_
  simp only [argS, Nat.reduceAdd, arR, List.length_cons, List.length_nil]
  refine jq ?_
  refine jg ?_
  refine jn ?_
  refine jo ?_
  refine je ?_
  iterate 2 refine jq ?_
  refine jg ?_
  iterate 2 refine jo ?_
  refine jc [0,1] (ar_has_no ps id fr lv hl hm hi) (by simp [jOb, arR]) (by simp [jEb, jOb, jMb, mapL_cellsR, okL_cellsR, arR]) ?_; rintro _ _ ⟨rfl, rfl⟩ -; simp only [jPg, jMb, ll, Nat.reduceAdd, Nat.reduceLT, Nat.zero_add, if_true, if_false, Nat.reduceSub, reduceIte, mapL_cellsR, Nat.lt_irrefl, Nat.not_lt_zero, Nat.zero_lt_succ, Nat.lt_add_one, arR]
  refine jB true ?_
  refine je ?_
  refine WS.pcondT rfl rfl ?_
  refine jq ?_
  refine jg ?_
  refine WS.poA (tb := tb) rfl rfl rfl rfl rfl (by simp only [vcells, setL, ll, nl, nz, Nat.reduceAdd, Nat.reduceMul, Int.reduceToNat]; exact rfl) ?_
  refine js ?_
  refine jo ?_
  refine je ?_
  refine WS.pret rfl ⟨.inr rfl, _, rfl, ?_⟩
  exact ⟨_, rfl, [0,1], arR ps fr lv, .tup [.agg [.i .u32 0, .i .u32 0, .i .i64 0, .i .i64 0, .i .i64 0, .i .i64 0], .i .i64 1], ⟨rfl, rfl, by simp [arR, viewP, okL, okV, mapL, mapV, mem_get, mapL_cellsR, okL_cellsR], rfl⟩, rfl, by simp [okV, okL], rfl, rfl⟩
theorem ar_take_yes (ps : List Pl) (id : Nat) (lv : Int) (p : Pl) (hp : ps[id]? = some p) (h0 : 0 < id) (hm : ps.length ≤ 600) (hlv : 0 ≤ lv) (hlv2 : lv ≤ 600) :
  FM Try.prog 27 [.p (some (1,0))] (arM ps id lv) (fun v M' => v = .tup [.i .u32 id, .i .i64 0] ∧ M' = arM (ps.set id ⟨true, 0, 0, 0, 0, 0, 0, 0⟩) p.next (lv + 1)) := by
  have hid : id < ps.length := (List.getElem?_eq_some_iff.1 hp).1
  refine FM.pbody (tb := tb) (fn := Try.f27) rfl rfl ?_
  simp only [argS, Nat.reduceAdd, arM, List.length_cons, List.length_nil]
  refine jq ?_
  refine jg ?_
  iterate 2 refine jo ?_
  refine je ?_
  refine jq ?_
  refine jg ?_
  iterate 2 refine jo ?_
  refine jP ?_
  iterate 2 refine jo ?_
  refine je ?_
  iterate 2 refine jq ?_
  refine jg ?_
  refine jo ?_
  refine jDF ?_
  refine je ?_
  refine WS.pcondF rfl rfl ?_
  refine WS.pskip rfl ?_
  refine jq ?_
  refine jg ?_
  iterate 3 refine jo ?_
  refine jP ?_
  iterate 2 refine jo ?_
  refine jI ?_
  refine jP ?_
  refine WS.po (tb := tb) rfl rfl rfl rfl (step_R rfl (evR_load rfl rfl rfl rfl (cellsR_get hp rfl))) ?_
  refine jo ?_
  refine jP ?_
  refine js ?_
  refine je ?_
  refine jq ?_
  refine jg ?_
  iterate 2 refine jo ?_
  refine jP ?_
  iterate 2 refine jo ?_
  refine WS.poA (tb := tb) rfl rfl rfl rfl rfl (by simp only [vcells, setL, ll, nl, nz, Nat.reduceAdd, Nat.reduceMul, Int.reduceToNat]; exact rfl) ?_
  refine jI ?_
  refine WS.po0 (tb := tb) rfl rfl rfl rfl (step_H rfl rfl (evH_store rfl rfl rfl rfl rfl (Nat.zero_le _) rfl (by simp [vcells]) (by simp only [Pl_len, vcells, List.length_cons, List.length_nil, cellsI_len, cellsB_len, List.length_set, List.length_replicate, List.length_append, List.length_map, List.length_take, List.length_drop]; omega))) ?_; rw [upd_mem _ rfl]; simp only [vcells, List.set_cons_zero, List.set_cons_succ, (Pl_set hp)]; (try simp only [setL, List.set_cons_zero, List.set_cons_succ])
  refine je ?_
  refine jq ?_
  refine jg ?_
  iterate 2 refine jo ?_
  refine jP ?_
  refine jo ?_
  refine jW ?_
  refine jo ?_
  refine jP ?_
  refine js ?_
  refine je ?_
  refine jq ?_
  refine jg ?_
  iterate 3 refine jo ?_
  refine je ?_
  refine WS.pret rfl ⟨.inr rfl, _, rfl, ?_⟩
  exact ⟨_, rfl, rfl, by simp only [arM, List.length_set]⟩
theorem ar_take_no (ps : List Pl) (lv : Int) : FM Try.prog 27 [.p (some (1,0))] (arM ps 0 lv) (fun v M' => v = .tup [.i .u32 0, .i .i64 5] ∧ M' = arM ps 0 lv) := by
  refine FM.pbody (tb := tb) (fn := Try.f27) rfl rfl ?_
  simp only [argS, Nat.reduceAdd, arM, List.length_cons, List.length_nil]
  refine jq ?_
  refine jg ?_
  iterate 2 refine jo ?_
  refine je ?_
  refine jq ?_
  refine jg ?_
  iterate 2 refine jo ?_
  refine jP ?_
  iterate 2 refine jo ?_
  refine je ?_
  iterate 2 refine jq ?_
  refine jg ?_
  refine jo ?_
  refine jB true ?_
  refine je ?_
  refine WS.pcondT rfl rfl ?_
  refine jq ?_
  refine jg ?_
  iterate 2 refine jo ?_
  refine je ?_
  refine WS.pret rfl ⟨.inr rfl, _, rfl, ?_⟩
  exact ⟨_, rfl, rfl, rfl⟩
theorem ar_new_bad (z : Int) (h : z < 1 ∨ 512 < z) : FM Try.prog 8 [.i .i64 z] [] (fun v M' => v = .tup [.p none, .i .i64 1] ∧ M' = []) := by
  refine FM.pbody (tb := tb) (fn := Try.f8) rfl rfl ?_
  simp only [argS, Nat.reduceAdd, arM, List.length_cons, List.length_nil]
  by_cases h1 : z < 1
  · refine WS.pseq rfl ?_
    refine jg ?_
    iterate 2 refine jo ?_
    refine je ?_
    iterate 2 refine jq ?_
    refine jg ?_
    refine jo ?_
    refine jDT ?_
    refine jo ?_
    iterate 2 refine jN ?_
    refine jo ?_
    refine je ?_
    refine WS.pcondT rfl rfl ?_
    refine jq ?_
    refine jg ?_
    iterate 2 refine jo ?_
    refine je ?_
    refine WS.pret rfl ⟨.inr rfl, _, rfl, ?_⟩
    exact ⟨_, rfl, rfl, rfl⟩
  · refine WS.pseq rfl ?_
    refine jg ?_
    iterate 2 refine jo ?_
    refine je ?_
    iterate 2 refine jq ?_
    refine jg ?_
    refine jo ?_
    refine jDF ?_
    iterate 2 refine jo ?_
    refine jDT ?_
    refine jo ?_
    refine je ?_
    refine WS.pcondT rfl rfl ?_
    refine jq ?_
    refine jg ?_
    iterate 2 refine jo ?_
    refine je ?_
    refine WS.pret rfl ⟨.inr rfl, _, rfl, ?_⟩
    exact ⟨_, rfl, rfl, rfl⟩
def iniP (n i : Nat) : List Pl := (List.range (n + 1)).map fun j => ⟨false, if 1 ≤ j ∧ j < i then (j : Int) + 1 else 0, 0, 0, 0, 0, 0, 0⟩
theorem iniP_len (n i : Nat) : (iniP n i).length = n + 1 := by simp [iniP]
theorem iniP_get (n i j : Nat) (h : j ≤ n) : (iniP n i)[j]? = some ⟨false, if 1 ≤ j ∧ j < i then (j : Int) + 1 else 0, 0, 0, 0, 0, 0, 0⟩ := by
  simp [iniP, List.getElem?_map, List.getElem?_range, show j < n + 1 by omega]
theorem iniP_set (n i : Nat) (h : 1 ≤ i) (h2 : i ≤ n) : (iniP n i).set i ⟨false, (i : Int) + 1, 0, 0, 0, 0, 0, 0⟩ = iniP n (i + 1) := by
  apply List.ext_getElem?
  intro j
  rw [List.getElem?_set]
  by_cases e : i = j
  · subst e; rw [if_pos rfl, if_pos (by rw [iniP_len]; omega), iniP_get n _ i h2, if_pos (by omega)]
  · rw [if_neg e]
    rcases Nat.lt_or_ge n j with hj | hj
    · rw [List.getElem?_eq_none (by rw [iniP_len]; omega), List.getElem?_eq_none (by rw [iniP_len]; omega)]
    · rw [iniP_get n i j hj, iniP_get n (i + 1) j hj]
      by_cases h3 : 1 ≤ j ∧ j < i
      · rw [if_pos h3, if_pos (by omega)]
      · rw [if_neg h3, if_neg (by omega)]
theorem ar_new_ok (n : Nat) (h1 : 1 ≤ n) (h2 : n ≤ 512) : FM Try.prog 8 [.i .i64 n] [] (fun v M' => v = .tup [.p (some (1,0)), .i .i64 0] ∧ M' = arM (iniP n n) 1 0) := by
  refine FM.pbody (tb := tb) (fn := Try.f8) rfl rfl ?_
  simp only [argS, Nat.reduceAdd, List.length_cons, List.length_nil]
  refine jq ?_
  refine jg ?_
  iterate 2 refine jo ?_
  refine je ?_
  iterate 2 refine jq ?_
  refine jg ?_
  refine jo ?_
  refine jDF ?_
  iterate 2 refine jo ?_
  refine jDF ?_
  refine jo ?_
  refine je ?_
  refine WS.pcondF rfl rfl ?_
  refine WS.pskip rfl ?_
  refine jq ?_
  refine jg ?_
  refine jo ?_
  refine jW ?_
  refine WS.po (tb := tb) rfl rfl rfl rfl (step_H rfl rfl (evH_make (m := (n+1)) (n := (n+1)) rfl rfl rfl rfl rfl rfl rfl rfl (by omega) (by omega) (by omega) (Nat.le_refl _) (by omega) (by omega))) ?_; (try rw [upd_mem _ rfl]); (try rw [new_mem]); (try simp only [List.set_cons_zero, List.set_cons_succ, List.cons_append, List.nil_append, mem_next, List.length_cons, List.length_nil, Nat.zero_add, Nat.reduceAdd, List.drop_zero, vcells, cellsI_app1, cellsB_app1, cellsI_cons, repsI, repsB, Pl_app1, Pl_reps])
  refine WS.poA (tb := tb) rfl rfl rfl rfl rfl (by simp only [vcells, setL, ll, nl, nz, Nat.reduceAdd, Nat.reduceMul, Int.reduceToNat]; exact rfl) ?_
  refine jn ?_
  refine jo ?_
  refine je ?_
  iterate 2 refine jq ?_
  refine jg ?_
  refine jo ?_
  refine je ?_
  refine WS.pblock rfl ?_
  have e0 : List.replicate (n + 1) ⟨false, 0, 0, 0, 0, 0, 0, 0⟩ = iniP n 1 := by
    apply List.ext_getElem?
    intro j
    rcases Nat.lt_or_ge n j with hj | hj
    · rw [List.getElem?_eq_none (by simp; omega), List.getElem?_eq_none (by rw [iniP_len]; omega)]
    · rw [iniP_get n 1 j hj, List.getElem?_replicate, if_pos (by omega), if_neg (by omega)]
  rw [e0]
  refine WS.ploopI (σ := Nat) (τ := Unit) (fun i => [(5, .i .i64 i), (4, .p (some (1,0))), (0, .i .i64 n)]) (fun i => [some ⟨cellsR rwPl (iniP n i), 64, true⟩, some ⟨[.sl (some (0,0)) (n + 1) (n + 1) false, .i .u32 1, .i .i64 0], 60, true⟩]) (fun i => 1 ≤ i ∧ i ≤ n) (fun i => n - i)
    (fun _ => [(4, .p (some (1,0)))]) (fun _ => arM (iniP n n) 1 0) (fun _ => True) 0 [0,1] 1 rfl ⟨Nat.le_refl _, h1⟩ (jSb (by simp [jVb, jOb, jMb, mapL_cellsR, okL_cellsR]) (by simp only [jSl, jOb, jMb, Nat.reduceAdd, Nat.reduceLT] <;> exact jClo)) rfl ?_ ?_
  · rintro i ⟨hi, hi2⟩
    by_cases h : i < n
    · have hs : setL (cellsR rwPl (iniP n i)) (i * 8 + 1) [.i .u32 ((i : Int) + 1)] = cellsR rwPl (iniP n (i + 1)) := (Pl_set_next (iniP_get n i i hi2) _).trans (congrArg _ (iniP_set n i hi hi2))
      have hl := iniP_len n i
      iterate 2 refine jq ?_
      refine jg ?_
      iterate 2 refine jo ?_
      refine jDT ?_
      refine je ?_
      refine WS.pcondT rfl rfl ?_
      refine WS.pskip rfl ?_
      refine jq ?_
      refine WS.pblock rfl ?_
      refine jg ?_
      iterate 2 refine jo ?_
      refine jP ?_
      iterate 3 refine jo ?_
      iterate 2 refine jW ?_
      refine jI ?_
      refine jP ?_
      refine WS.po0 (tb := tb) rfl rfl rfl rfl (step_H rfl rfl (evH_store rfl rfl rfl rfl rfl (Nat.zero_le _) rfl (by simp [vcells]) (by simp only [Pl_len, vcells, List.length_cons, List.length_nil, cellsI_len, cellsB_len, List.length_set, List.length_replicate, List.length_append, List.length_map, List.length_take, List.length_drop, hl]; omega))) ?_; rw [upd_mem _ rfl]; simp only [vcells, List.set_cons_zero, List.set_cons_succ, hs]; (try simp only [setL, List.set_cons_zero, List.set_cons_succ])
      refine je ?_
      refine jg ?_
      refine jo ?_
      refine jW ?_
      refine jo ?_
      refine je ?_
      refine WS.nil ?_
      exact ⟨i + 1, ⟨by omega, by omega⟩, by omega, (jSn [0,1] (by simp [jVb, jOb, jMb, mapL_cellsR, okL_cellsR]) (by simp only [jSl, jOb, jMb, Nat.reduceAdd, Nat.reduceLT] <;> exact jClo))⟩
    · have e : i = n := by omega
      subst e
      iterate 2 refine jq ?_
      refine jg ?_
      iterate 2 refine jo ?_
      refine jDF ?_
      refine je ?_
      refine WS.pcondF rfl rfl ?_
      refine WS.pout rfl rfl ?_
      exact ⟨rfl, (), trivial, (jSn [0,1] (by simp [jVb, jOb, jMb, mapL_cellsR, okL_cellsR, arM, iniP_len]) (by simp only [jSl, jOb, jMb, Nat.reduceAdd, Nat.reduceLT, arM, iniP_len] <;> exact jClo))⟩
  · rintro _ -
    simp only [arM]
    refine jq ?_
    refine jg ?_
    iterate 3 refine jo ?_
    refine je ?_
    refine WS.pret rfl ⟨.inr rfl, _, rfl, ?_⟩
    exact ⟨_, rfl, rfl, rfl⟩
end Go.Proofs.Ytpogfelbimcglaa.Am

