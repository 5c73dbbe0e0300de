/- Functions of the flash, walked. Conditions: those of each theorem. -/
import Derived.Test.YtmkolibmadbenaaNd1
namespace Go.Proofs.Ytmkolibmadbenaa.Am
open Go.Proofs
set_option maxRecDepth 1000000
set_option maxHeartbeats 4000000
set_option linter.unusedSimpArgs false
set_option linter.unusedVariables false
/-- A row, read from a place on, laid anew. -/
theorem cloneB_walk (xs : List Int) (o n c : Nat) (q : Bool) (h : o + n ≤ xs.length) (h0 : 0 < n) (hm : xs.length ≤ 1000000) : FM Try.prog 37 [.sl (some (0, o)) n c q] [some ⟨cellsR (rwI .u8) xs, 5, false⟩] (fun v M' => v = .sl (some (1, 0)) n n true ∧ M' = [some ⟨cellsR (rwI .u8) xs, 5, false⟩, some ⟨cellsR (rwI .u8) ((xs.drop o).take n), 5, true⟩]) := by
  refine FM.pbodyV (tb := tb) (fn := Try.f37) rfl rfl ?_
  simp only [argS, Nat.reduceAdd, List.length_cons, List.length_nil]
  refine jq ?_
  refine jg ?_
  refine jo ?_
  refine je ?_
  iterate 2 refine jq ?_
  refine jg ?_
  refine jo ?_
  refine jB false ?_
  refine je ?_
  refine WS.pcondF rfl rfl ?_
  refine WS.pskip rfl ?_
  refine jq ?_
  refine jg ?_
  refine jn ?_
  refine jo ?_
  refine WS.po (tb := tb) rfl rfl rfl rfl (step_H rfl rfl (evH_append_empty rfl rfl rfl rfl rfl rfl rfl rfl rfl (by omega) (by omega) (cellsAt_rows (R := rwI .u8) (k := o) rfl rfl (by simp only [rwI, Nat.mul_one]) (by omega)) (by first | exact rfl | (simp only [Bk_len, vcells, List.length_cons, List.length_nil, cellsI_len, cellsB_len, List.length_set, List.length_replicate, List.length_append, List.length_map, List.length_take, List.length_drop]; omega) | omega) (by omega))) ?_; (try rw [upd_mem _ rfl]); (try rw [new_mem]); (try simp only [List.set_cons_zero, List.set_cons_succ, List.cons_append, List.nil_append, mem_next, List.length_cons, List.length_nil, Nat.zero_add, Nat.reduceAdd, List.drop_zero, vcells, cellsI_app1, cellsB_app1, cellsI_cons, repsI, repsB, Bk_app1, Bk_reps])
  refine jo ?_
  refine je ?_
  refine WS.pret rfl ⟨.inr rfl, _, rfl, ?_⟩
  exact ⟨_, rfl, [0,2], [some ⟨cellsR (rwI .u8) xs, 5, false⟩, some ⟨cellsR (rwI .u8) ((xs.drop o).take n), 5, true⟩], .sl (some (1, 0)) n n true, ⟨rfl, rfl, (by simp [jVb, jOb, jMb, mapL_cellsR, okL_cellsR]), rfl⟩, rfl, by simp [okV], rfl, rfl⟩
theorem read_no (x : NS) (z : Int) (np : Nat) (e : Int) (hp : (x.bk.length : Int) * x.p = (np : Int)) (hnp : np ≤ 10000) (hbk : x.bk.length ≤ 1000) (h : ((z < 0 ∨ (np : Int) ≤ z) ∧ e = 1) ∨ (¬ (z < 0 ∨ (np : Int) ≤ z) ∧ x.off = true ∧ e = 7)) :
    FM Try.prog 15 [.p (some (2,0)), .i .i64 z] (ndM x) (fun v M' => v = .tup [.sl none 0 0 false, .i .i64 e] ∧ M' = ndM x) := by
  refine FM.pbody (tb := tb) (fn := Try.f15) rfl rfl ?_
  simp only [argS, Nat.reduceAdd, ndM, List.length_cons, List.length_nil]
  rcases h with ⟨h, rfl⟩ | ⟨h, ho, rfl⟩
  · by_cases h0 : z < 0
    · refine WS.pseq rfl ?_
      refine jg ?_
      iterate 2 refine jo ?_
      refine je ?_
      refine jq ?_
      refine WS.pblock rfl ?_
      refine jq ?_
      refine WS.pdraw (tb := tb) (by kernel_rfl) rfl (by kernel_rfl) (by kernel_rfl) ?_
      refine jp ?_
      refine jdDT ?_
      refine jp ?_
      iterate 4 refine jno ?_
      refine WD.no1 rfl rfl rfl rfl ?_
      iterate 4 refine jno ?_
      refine WD.no1 rfl rfl rfl rfl ?_
      iterate 2 refine jno ?_
      iterate 2 refine jp ?_
      refine WD.fin rfl ?_
      refine WS.pcondT rfl rfl ?_
      refine jq ?_
      refine jg ?_
      iterate 2 refine jo ?_
      refine je ?_
      refine WS.pret rfl ⟨.inr rfl, _, rfl, ?_⟩
      exact ⟨_, rfl, rfl, rfl⟩
    · refine WS.pseq rfl ?_
      refine jg ?_
      iterate 2 refine jo ?_
      refine je ?_
      refine jq ?_
      refine WS.pblock rfl ?_
      refine jq ?_
      refine WS.pdraw (tb := tb) (by kernel_rfl) rfl (by kernel_rfl) (by kernel_rfl) ?_
      refine jp ?_
      refine jdDF ?_
      iterate 4 refine jp ?_
      refine jd ?_
      refine jr ?_
      iterate 3 refine jp ?_
      refine jd ?_
      refine jr ?_
      refine WD.p (tb := tb) rfl rfl rfl rfl (evP_mulV rfl rfl rfl (by assumption) (by simp only [lo]; omega) (by simp only [Am.hi]; omega)) ?_
      refine jdDT ?_
      iterate 2 refine jp ?_
      refine WD.fin rfl ?_
      refine WS.pcondT rfl rfl ?_
      refine jq ?_
      refine jg ?_
      iterate 2 refine jo ?_
      refine je ?_
      refine WS.pret rfl ⟨.inr rfl, _, rfl, ?_⟩
      exact ⟨_, rfl, rfl, rfl⟩
  · simp only [ho]
    refine jq ?_
    refine jg ?_
    iterate 2 refine jo ?_
    refine je ?_
    refine jq ?_
    refine WS.pblock rfl ?_
    refine jq ?_
    refine WS.pdraw (tb := tb) (by kernel_rfl) rfl (by kernel_rfl) (by kernel_rfl) ?_
    refine jp ?_
    refine jdDF ?_
    iterate 4 refine jp ?_
    refine jd ?_
    refine jr ?_
    iterate 3 refine jp ?_
    refine jd ?_
    refine jr ?_
    refine WD.p (tb := tb) rfl rfl rfl rfl (evP_mulV rfl rfl rfl (by assumption) (by simp only [lo]; omega) (by simp only [Am.hi]; omega)) ?_
    refine jdDF ?_
    iterate 2 refine jp ?_
    refine WD.fin rfl ?_
    refine WS.pcondF rfl rfl ?_
    refine jq ?_
    refine jg ?_
    iterate 2 refine jo ?_
    refine jP ?_
    iterate 2 refine jo ?_
    refine je ?_
    refine WS.pcondT rfl rfl ?_
    refine jq ?_
    refine jg ?_
    iterate 2 refine jo ?_
    refine je ?_
    refine WS.pret rfl ⟨.inr rfl, _, rfl, ?_⟩
    exact ⟨_, rfl, rfl, rfl⟩
theorem read_ok (x : NS) (page np : Nat) (hp : (x.bk.length : Int) * x.p = (np : Int)) (hnp : np ≤ 10000) (hbk : x.bk.length ≤ 1000) (h : page < np) (ho : x.off = false) (hbs : x.bs.length = np * 68) (hr : x.rd ≤ 1000000) (hr0 : 0 ≤ x.rd) :
    FM Try.prog 15 [.p (some (2,0)), .i .i64 page] (ndM x) (fun v M' => v = .tup [.sl (some (3,0)) 68 68 true, .i .i64 0] ∧ M' = ndM { x with rd := x.rd + 1 } ++ [some ⟨cellsR (rwI .u8) ((x.bs.drop (page * 68)).take 68), 5, true⟩]) := by
  have A := at_walk { x with rd := x.rd + 1 } page (by simp only; omega) (by simp only; omega)
  have C := cloneB_walk x.bs (page * 68) 68 (x.bs.length - page * 68) false (by omega) (by omega) (by omega)
  simp only [ndR] at A
  refine FM.pbody (tb := tb) (fn := Try.f15) rfl rfl ?_
  simp only [argS, Nat.reduceAdd, ndM, List.length_cons, List.length_nil]
  simp only [ho] at A ⊢
  refine jq ?_
  refine jg ?_
  iterate 2 refine jo ?_
  refine je ?_
  refine jq ?_
  refine WS.pblock rfl ?_
  refine jq ?_
  refine WS.pdraw (tb := tb) (by kernel_rfl) rfl (by kernel_rfl) (by kernel_rfl) ?_
  refine jp ?_
  refine WD.pB (tb := tb) false rfl rfl rfl rfl rfl rfl ?_
  iterate 4 refine jp ?_
  refine jd ?_
  refine jr ?_
  iterate 3 refine jp ?_
  refine jd ?_
  refine jr ?_
  refine WD.p (tb := tb) rfl rfl rfl rfl (evP_mulV rfl rfl rfl (by assumption) (by simp only [lo]; omega) (by simp only [Am.hi]; omega)) ?_
  refine jdDF ?_
  iterate 2 refine jp ?_
  refine WD.fin rfl ?_
  refine WS.pcondF rfl rfl ?_
  refine jq ?_
  refine jg ?_
  iterate 2 refine jo ?_
  refine jP ?_
  iterate 2 refine jo ?_
  refine je ?_
  refine WS.pcondF rfl rfl ?_
  refine WS.pskip rfl ?_
  refine jq ?_
  refine jg ?_
  iterate 2 refine jo ?_
  iterate 2 refine jP ?_
  refine jo ?_
  refine jW ?_
  refine jo ?_
  iterate 2 refine jP ?_
  refine js ?_
  refine je ?_
  refine jq ?_
  refine jg ?_
  iterate 2 refine jo ?_
  refine jc [0,1,2] A (by simp [jOb]) (by simp [jEb, jOb, jMb, mapL_cellsR, okL_cellsR]) ?_; rintro _ _ ⟨rfl, rfl⟩ -; simp only [jPg, jMb, ll, Nat.reduceAdd, Nat.reduceLT, Nat.zero_add, if_true, if_false, Nat.reduceSub, reduceIte, mapL_cellsR, Nat.lt_irrefl, Nat.not_lt_zero, Nat.zero_lt_succ, Nat.lt_add_one]
  refine jc [0] C (by simp [jOb]) (by simp [jEb, jOb, jMb, mapL_cellsR, okL_cellsR]) ?_; rintro _ _ ⟨rfl, rfl⟩ -; simp only [jPg, jMb, ll, Nat.reduceAdd, Nat.reduceLT, Nat.zero_add, if_true, if_false, Nat.reduceSub, reduceIte, mapL_cellsR, Nat.lt_irrefl, Nat.not_lt_zero, Nat.zero_lt_succ, Nat.lt_add_one]
  iterate 2 refine jo ?_
  refine je ?_
  refine WS.pret rfl ⟨.inr rfl, _, rfl, ?_⟩
  exact ⟨_, rfl, rfl, rfl⟩
def flg (y : Bk) : Int := (if y.bad = true then 1 else 0) + (if y.torn = true then 2 else 0)
def tlI (bk : List Bk) (k : Nat) : List Int := (bk.take k).flatMap fun y => [flg y, y.next]
/-- All that there is. -/
def imI (x : NS) : List Int := x.bs ++ tlI x.bk x.bk.length
theorem tlI_0 (bk : List Bk) : tlI bk 0 = [] := rfl
theorem tlI_succ {bk : List Bk} {k : Nat} {y : Bk} (hy : bk[k]? = some y) : tlI bk (k + 1) = tlI bk k ++ [flg y, y.next] := by
  simp only [tlI, List.take_add_one, hy, List.flatMap_append]; simp
theorem tlI_len (bk : List Bk) : ∀ k, k ≤ bk.length → (tlI bk k).length = 2 * k
  | 0, _ => rfl
  | k + 1, h => by
    rw [tlI_succ (List.getElem?_eq_getElem (show k < bk.length by omega)), List.length_append, tlI_len bk k (by omega)]; simp; omega
theorem cellsI_app2 {k : IntKind} {xs : List Int} {a b : Int} : cellsR (rwI k) xs ++ [.i k a, .i k b] = cellsR (rwI k) (xs ++ [a, b]) := by rw [cellsR_app]; simp [cellsR, rwI]
theorem image_walk (x : NS) (h0 : 0 < x.bs.length) (hm : x.bs.length ≤ 1000000) (hk : x.bk.length ≤ 1000) (hb : ∀ y ∈ x.bk, 0 ≤ y.next ∧ y.next ≤ 255) :
    FM Try.prog 27 [.p (some (2,0))] (ndR x) (fun v M' => v = .sl (some (3,0)) (imI x).length (imI x).length true ∧ M' = ndR x ++ [some ⟨cellsR (rwI .u8) (imI x), 5, true⟩]) := by
  have C := cloneB_walk x.bs 0 x.bs.length x.bs.length false (by omega) (by omega) (by omega)
  rw [List.drop_zero, List.take_length] at C
  refine FM.pbodyV (tb := tb) (fn := Try.f27) rfl rfl ?_
  simp only [argS, Nat.reduceAdd, ndR, List.length_cons, List.length_nil]
  refine jq ?_
  refine jg ?_
  refine jo ?_
  refine je ?_
  refine jq ?_
  refine jg ?_
  iterate 2 refine jo ?_
  refine jP ?_
  refine jo ?_
  refine jc [0] C (by simp [jOb]) (by simp [jEb, jOb, jMb, mapL_cellsR, okL_cellsR]) ?_; rintro _ _ ⟨rfl, rfl⟩ -; simp only [jPg, jMb, ll, Nat.reduceAdd, Nat.reduceLT, Nat.zero_add, if_true, if_false, Nat.reduceSub, reduceIte, mapL_cellsR, Nat.lt_irrefl, Nat.not_lt_zero, Nat.zero_lt_succ, Nat.lt_add_one]
  refine jo ?_
  refine je ?_
  iterate 2 refine jq ?_
  refine jg ?_
  iterate 2 refine jo ?_
  refine jP ?_
  iterate 3 refine jo ?_
  refine je ?_
  refine WS.pblock rfl ?_
  refine WS.ploopI (σ := Nat) (τ := Unit) (fun i => [(3, .sl (some (3,0)) (x.bs ++ tlI x.bk i).length (x.bs ++ tlI x.bk i).length true), (15, .sl (some (1,0)) x.bk.length x.bk.length false), (16, .i .i64 x.bk.length), (17, .i .i64 i)])
    (fun i => ndR x ++ [some ⟨cellsR (rwI .u8) (x.bs ++ tlI x.bk i), 5, true⟩]) (fun i => i ≤ x.bk.length) (fun i => x.bk.length - i)
    (fun _ => [(3, .sl (some (3,0)) (imI x).length (imI x).length true)]) (fun _ => ndR x ++ [some ⟨cellsR (rwI .u8) (imI x), 5, true⟩]) (fun _ => True) 0 [0,1,2,3] 0 rfl (Nat.zero_le _) (jSb (by simp [jVb, jOb, jMb, mapL_cellsR, okL_cellsR, ndR, tlI_0]) (by simp only [jSl, jOb, jMb, Nat.reduceAdd, Nat.reduceLT, ndR, tlI_0] <;> exact jClo)) rfl ?_ ?_
  · intro i hi
    have hl := tlI_len x.bk i hi
    have hla : (x.bs ++ tlI x.bk i).length = x.bs.length + 2 * i := by rw [List.length_append, hl]
    simp only [ndR, hla, List.cons_append, List.nil_append]
    by_cases hlt : i < x.bk.length
    · obtain ⟨y, hy⟩ : ∃ y, x.bk[i]? = some y := ⟨_, List.getElem?_eq_getElem hlt⟩
      have hyb := hb y (List.mem_of_getElem? hy)
      have e1 : (x.bs ++ tlI x.bk i) ++ [flg y, y.next] = x.bs ++ tlI x.bk (i + 1) := by rw [tlI_succ hy, List.append_assoc]
      have e2 : (x.bs ++ tlI x.bk (i + 1)).length = x.bs.length + 2 * i + 2 := by rw [List.length_append, tlI_len x.bk (i + 1) (by omega)]; omega
      obtain ⟨yn, yb, yt, yw⟩ := y
      simp only at hyb
      cases yb with
      | true =>
        cases yt with
        | true =>
          have e3 : (x.bs ++ tlI x.bk i) ++ [0 + 1 + 2, yn] = x.bs ++ tlI x.bk (i + 1) := by rw [← e1]; simp [flg]
          refine jq ?_
          refine jg ?_
          refine jDT ?_
          refine je ?_
          refine jq ?_
          refine WS.pcondT rfl rfl ?_
          refine WS.pskip rfl ?_
          refine jq ?_
          refine WS.pblock rfl ?_
          refine jq ?_
          refine jg ?_
          refine jI ?_
          refine WS.poA (tb := tb) rfl rfl rfl rfl (step_R rfl (evR_loads rfl rfl rfl rfl rfl (by exact (cellsR_part0 (R := rwBk) hy (by exact Nat.le_of_ble_eq_true rfl))) (by exact rfl))) (by simp only [List.drop_zero, List.drop_succ_cons, List.take_succ_cons, List.take_zero, rwBk]; exact rfl) ?_
          refine jn ?_
          refine js ?_
          refine je ?_
          refine jq ?_
          refine jg ?_
          refine jo ?_
          refine je ?_
          iterate 2 refine jq ?_
          refine jg ?_
          refine jP ?_
          refine jo ?_
          refine je ?_
          refine WS.pcondT rfl rfl ?_
          refine jg ?_
          refine jo ?_
          refine jW ?_
          refine jo ?_
          refine je ?_
          iterate 2 refine jq ?_
          refine jg ?_
          refine jP ?_
          refine jo ?_
          refine je ?_
          refine WS.pcondT rfl rfl ?_
          refine jg ?_
          refine jo ?_
          refine jW ?_
          refine jo ?_
          refine je ?_
          refine jg ?_
          iterate 2 refine jo ?_
          refine jP ?_
          refine jo ?_
          refine jW ?_
          refine jn ?_
          refine WS.po (tb := tb) rfl rfl rfl rfl (step_H rfl rfl (evH_append_open rfl rfl rfl rfl rfl rfl rfl rfl rfl (by omega) rfl (Nat.zero_le _) (by omega) (cellsAt_all rfl rfl) (by first | exact rfl | (simp only [Bk_len, vcells, List.length_cons, List.length_nil, cellsI_len, cellsB_len, List.length_set, List.length_replicate, List.length_append, List.length_map, List.length_take, List.length_drop, hla]; omega) | omega) (by first | exact rfl | (simp only [Bk_len, vcells, List.length_cons, List.length_nil, cellsI_len, cellsB_len, List.length_set, List.length_replicate, List.length_append, List.length_map, List.length_take, List.length_drop, hla]; omega) | omega) rfl (by omega))) ?_; (try rw [upd_mem _ rfl]); (try rw [new_mem]); (try simp only [List.set_cons_zero, List.set_cons_succ, List.cons_append, List.nil_append, mem_next, List.length_cons, List.length_nil, Nat.zero_add, Nat.reduceAdd, List.drop_zero, vcells, cellsI_app1, cellsB_app1, cellsI_cons, repsI, repsB, Bk_app1, Bk_reps, cellsI_app2, e3])
          refine jo ?_
          refine je ?_
          refine jg ?_
          refine jW ?_
          refine jo ?_
          refine je ?_
          refine WS.nil ?_
          exact ⟨i + 1, by omega, by omega, (jSn [0,1,2,6] (by simp [jVb, jOb, jMb, mapL_cellsR, okL_cellsR, ndR, e2]) (by simp only [jSl, jOb, jMb, Nat.reduceAdd, Nat.reduceLT, ndR, e2] <;> exact jClo))⟩
        | false =>
          have e3 : (x.bs ++ tlI x.bk i) ++ [0 + 1, yn] = x.bs ++ tlI x.bk (i + 1) := by rw [← e1]; simp [flg]
          refine jq ?_
          refine jg ?_
          refine jDT ?_
          refine je ?_
          refine jq ?_
          refine WS.pcondT rfl rfl ?_
          refine WS.pskip rfl ?_
          refine jq ?_
          refine WS.pblock rfl ?_
          refine jq ?_
          refine jg ?_
          refine jI ?_
          refine WS.poA (tb := tb) rfl rfl rfl rfl (step_R rfl (evR_loads rfl rfl rfl rfl rfl (by exact (cellsR_part0 (R := rwBk) hy (by exact Nat.le_of_ble_eq_true rfl))) (by exact rfl))) (by simp only [List.drop_zero, List.drop_succ_cons, List.take_succ_cons, List.take_zero, rwBk]; exact rfl) ?_
          refine jn ?_
          refine js ?_
          refine je ?_
          refine jq ?_
          refine jg ?_
          refine jo ?_
          refine je ?_
          iterate 2 refine jq ?_
          refine jg ?_
          refine jP ?_
          refine jo ?_
          refine je ?_
          refine WS.pcondT rfl rfl ?_
          refine jg ?_
          refine jo ?_
          refine jW ?_
          refine jo ?_
          refine je ?_
          iterate 2 refine jq ?_
          refine jg ?_
          refine jP ?_
          refine jo ?_
          refine je ?_
          refine WS.pcondF rfl rfl ?_
          refine WS.pskip rfl ?_
          refine jg ?_
          iterate 2 refine jo ?_
          refine jP ?_
          refine jo ?_
          refine jW ?_
          refine jn ?_
          refine WS.po (tb := tb) rfl rfl rfl rfl (step_H rfl rfl (evH_append_open rfl rfl rfl rfl rfl rfl rfl rfl rfl (by omega) rfl (Nat.zero_le _) (by omega) (cellsAt_all rfl rfl) (by first | exact rfl | (simp only [Bk_len, vcells, List.length_cons, List.length_nil, cellsI_len, cellsB_len, List.length_set, List.length_replicate, List.length_append, List.length_map, List.length_take, List.length_drop, hla]; omega) | omega) (by first | exact rfl | (simp only [Bk_len, vcells, List.length_cons, List.length_nil, cellsI_len, cellsB_len, List.length_set, List.length_replicate, List.length_append, List.length_map, List.length_take, List.length_drop, hla]; omega) | omega) rfl (by omega))) ?_; (try rw [upd_mem _ rfl]); (try rw [new_mem]); (try simp only [List.set_cons_zero, List.set_cons_succ, List.cons_append, List.nil_append, mem_next, List.length_cons, List.length_nil, Nat.zero_add, Nat.reduceAdd, List.drop_zero, vcells, cellsI_app1, cellsB_app1, cellsI_cons, repsI, repsB, Bk_app1, Bk_reps, cellsI_app2, e3])
          refine jo ?_
          refine je ?_
          refine jg ?_
          refine jW ?_
          refine jo ?_
          refine je ?_
          refine WS.nil ?_
          exact ⟨i + 1, by omega, by omega, (jSn [0,1,2,6] (by simp [jVb, jOb, jMb, mapL_cellsR, okL_cellsR, ndR, e2]) (by simp only [jSl, jOb, jMb, Nat.reduceAdd, Nat.reduceLT, ndR, e2] <;> exact jClo))⟩
      | false =>
        cases yt with
        | true =>
          have e3 : (x.bs ++ tlI x.bk i) ++ [0 + 2, yn] = x.bs ++ tlI x.bk (i + 1) := by rw [← e1]; simp [flg]
          refine jq ?_
          refine jg ?_
          refine jDT ?_
          refine je ?_
          refine jq ?_
          refine WS.pcondT rfl rfl ?_
          refine WS.pskip rfl ?_
          refine jq ?_
          refine WS.pblock rfl ?_
          refine jq ?_
          refine jg ?_
          refine jI ?_
          refine WS.poA (tb := tb) rfl rfl rfl rfl (step_R rfl (evR_loads rfl rfl rfl rfl rfl (by exact (cellsR_part0 (R := rwBk) hy (by exact Nat.le_of_ble_eq_true rfl))) (by exact rfl))) (by simp only [List.drop_zero, List.drop_succ_cons, List.take_succ_cons, List.take_zero, rwBk]; exact rfl) ?_
          refine jn ?_
          refine js ?_
          refine je ?_
          refine jq ?_
          refine jg ?_
          refine jo ?_
          refine je ?_
          iterate 2 refine jq ?_
          refine jg ?_
          refine jP ?_
          refine jo ?_
          refine je ?_
          refine WS.pcondF rfl rfl ?_
          refine WS.pskip rfl ?_
          iterate 2 refine jq ?_
          refine jg ?_
          refine jP ?_
          refine jo ?_
          refine je ?_
          refine WS.pcondT rfl rfl ?_
          refine jg ?_
          refine jo ?_
          refine jW ?_
          refine jo ?_
          refine je ?_
          refine jg ?_
          iterate 2 refine jo ?_
          refine jP ?_
          refine jo ?_
          refine jW ?_
          refine jn ?_
          refine WS.po (tb := tb) rfl rfl rfl rfl (step_H rfl rfl (evH_append_open rfl rfl rfl rfl rfl rfl rfl rfl rfl (by omega) rfl (Nat.zero_le _) (by omega) (cellsAt_all rfl rfl) (by first | exact rfl | (simp only [Bk_len, vcells, List.length_cons, List.length_nil, cellsI_len, cellsB_len, List.length_set, List.length_replicate, List.length_append, List.length_map, List.length_take, List.length_drop, hla]; omega) | omega) (by first | exact rfl | (simp only [Bk_len, vcells, List.length_cons, List.length_nil, cellsI_len, cellsB_len, List.length_set, List.length_replicate, List.length_append, List.length_map, List.length_take, List.length_drop, hla]; omega) | omega) rfl (by omega))) ?_; (try rw [upd_mem _ rfl]); (try rw [new_mem]); (try simp only [List.set_cons_zero, List.set_cons_succ, List.cons_append, List.nil_append, mem_next, List.length_cons, List.length_nil, Nat.zero_add, Nat.reduceAdd, List.drop_zero, vcells, cellsI_app1, cellsB_app1, cellsI_cons, repsI, repsB, Bk_app1, Bk_reps, cellsI_app2, e3])
          refine jo ?_
          refine je ?_
          refine jg ?_
          refine jW ?_
          refine jo ?_
          refine je ?_
          refine WS.nil ?_
          exact ⟨i + 1, by omega, by omega, (jSn [0,1,2,6] (by simp [jVb, jOb, jMb, mapL_cellsR, okL_cellsR, ndR, e2]) (by simp only [jSl, jOb, jMb, Nat.reduceAdd, Nat.reduceLT, ndR, e2] <;> exact jClo))⟩
        | false =>
          have e3 : (x.bs ++ tlI x.bk i) ++ [0, yn] = x.bs ++ tlI x.bk (i + 1) := by rw [← e1]; simp [flg]
          refine jq ?_
          refine jg ?_
          refine jDT ?_
          refine je ?_
          refine jq ?_
          refine WS.pcondT rfl rfl ?_
          refine WS.pskip rfl ?_
          refine jq ?_
          refine WS.pblock rfl ?_
          refine jq ?_
          refine jg ?_
          refine jI ?_
          refine WS.poA (tb := tb) rfl rfl rfl rfl (step_R rfl (evR_loads rfl rfl rfl rfl rfl (by exact (cellsR_part0 (R := rwBk) hy (by exact Nat.le_of_ble_eq_true rfl))) (by exact rfl))) (by simp only [List.drop_zero, List.drop_succ_cons, List.take_succ_cons, List.take_zero, rwBk]; exact rfl) ?_
          refine jn ?_
          refine js ?_
          refine je ?_
          refine jq ?_
          refine jg ?_
          refine jo ?_
          refine je ?_
          iterate 2 refine jq ?_
          refine jg ?_
          refine jP ?_
          refine jo ?_
          refine je ?_
          refine WS.pcondF rfl rfl ?_
          refine WS.pskip rfl ?_
          iterate 2 refine jq ?_
          refine jg ?_
          refine jP ?_
          refine jo ?_
          refine je ?_
          refine WS.pcondF rfl rfl ?_
          refine WS.pskip rfl ?_
          refine jg ?_
          iterate 2 refine jo ?_
          refine jP ?_
          refine jo ?_
          refine jW ?_
          refine jn ?_
          refine WS.po (tb := tb) rfl rfl rfl rfl (step_H rfl rfl (evH_append_open rfl rfl rfl rfl rfl rfl rfl rfl rfl (by omega) rfl (Nat.zero_le _) (by omega) (cellsAt_all rfl rfl) (by first | exact rfl | (simp only [Bk_len, vcells, List.length_cons, List.length_nil, cellsI_len, cellsB_len, List.length_set, List.length_replicate, List.length_append, List.length_map, List.length_take, List.length_drop, hla]; omega) | omega) (by first | exact rfl | (simp only [Bk_len, vcells, List.length_cons, List.length_nil, cellsI_len, cellsB_len, List.length_set, List.length_replicate, List.length_append, List.length_map, List.length_take, List.length_drop, hla]; omega) | omega) rfl (by omega))) ?_; (try rw [upd_mem _ rfl]); (try rw [new_mem]); (try simp only [List.set_cons_zero, List.set_cons_succ, List.cons_append, List.nil_append, mem_next, List.length_cons, List.length_nil, Nat.zero_add, Nat.reduceAdd, List.drop_zero, vcells, cellsI_app1, cellsB_app1, cellsI_cons, repsI, repsB, Bk_app1, Bk_reps, cellsI_app2, e3])
          refine jo ?_
          refine je ?_
          refine jg ?_
          refine jW ?_
          refine jo ?_
          refine je ?_
          refine WS.nil ?_
          exact ⟨i + 1, by omega, by omega, (jSn [0,1,2,6] (by simp [jVb, jOb, jMb, mapL_cellsR, okL_cellsR, ndR, e2]) (by simp only [jSl, jOb, jMb, Nat.reduceAdd, Nat.reduceLT, ndR, e2] <;> exact jClo))⟩
    · obtain rfl : i = x.bk.length := by omega
      refine jq ?_
      refine jg ?_
      refine jDF ?_
      refine je ?_
      refine jq ?_
      refine WS.pcondF rfl rfl ?_
      refine WS.pout rfl rfl ?_
      exact ⟨rfl, (), trivial, (jSn [0,1,2,3] (by simp [jVb, jOb, jMb, mapL_cellsR, okL_cellsR, ndR, imI, hla]) (by simp only [jSl, jOb, jMb, Nat.reduceAdd, Nat.reduceLT, ndR, imI, hla] <;> exact jClo))⟩
  · rintro _ -
    simp only [ndR, List.cons_append, List.nil_append]
    refine jq ?_
    refine jg ?_
    iterate 2 refine jo ?_
    refine je ?_
    refine WS.pret rfl ⟨.inr rfl, _, rfl, ?_⟩
    exact ⟨_, rfl, [0,1,2,3], ndR x ++ [some ⟨cellsR (rwI .u8) (imI x), 5, true⟩], .sl (some (3,0)) (imI x).length (imI x).length true, ⟨rfl, rfl, (by simp [jVb, jOb, jMb, mapL_cellsR, okL_cellsR, ndR]), rfl⟩, rfl, by simp [okV, ndR], rfl, rfl⟩
end Go.Proofs.Ytmkolibmadbenaa.Am

