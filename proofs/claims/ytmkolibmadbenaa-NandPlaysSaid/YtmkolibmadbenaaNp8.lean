/- Functions of the flash, walked. Conditions: those of each theorem. -/
import Derived.Test.YtmkolibmadbenaaAm5
import Derived.Test.YtmkolibmadbenaaNp6
namespace Go.Proofs.Ytmkolibmadbenaa.Am
open Go.Proofs
set_option maxRecDepth 1000000
set_option maxHeartbeats 4000000
set_option linter.unusedSimpArgs false
set_option linter.unusedVariables false
theorem pb_read (b p np : Nat) (l : List Act) (c i : Nat) (x : NS) (op a short fill : Int) (H : InvP np l.length (i, x)) (hl : l.length ≤ 40) (hx : l[i]? = some ⟨op, a, short, fill⟩) (hg : goodA ⟨op, a, short, fill⟩) (ho : op = 2) :
    WS Try.prog (frameN Try.f4 3) 1 [.c (k1 (k1 (k2 (k1 (k2 (k2 (k2 (k2 (k2 (k2 (kb Try.f4)))))))))))] (slt (SSp b p l c (i, x))) (mem 0 (PM l x)) (PostP b p np l c (i, x)) := by
  have hi : i < l.length := (List.getElem?_eq_some_iff.1 hx).1
  obtain ⟨hle, H, hrd, hpr, her⟩ := H
  dsimp only at H hrd hpr her
  have hga := wf64 hg.2.1
  dsimp only at hga
  subst ho
  by_cases hin : a < 0 ∨ (np : Int) ≤ a
  · have R1 := read_no x a np 1 H.hp H.np2 H.bk2 (.inl ⟨hin, rfl⟩)
    have R2 := rread_no x a np 1 H.hp H.np2 H.bk2 (.inl ⟨hin, rfl⟩)
    have I := is_walk x np a H
    simp only [isM, ndM, rfM, rfB, List.cons_append, List.nil_append] at I R1 R2
    simp only [SSp, PM, ndB, rfB, List.cons_append, List.nil_append]
    iterate 2 refine jq ?_
    refine jg ?_
    iterate 3 refine jo ?_
    refine jDT ?_
    refine je ?_
    refine WS.pcondT rfl rfl ?_
    refine WS.pskip rfl ?_
    refine jq ?_
    refine WS.pblock rfl ?_
    refine jq ?_
    refine jg ?_
    iterate 2 refine jo ?_
    refine jI ?_
    refine WS.poA (tb := tb) rfl rfl rfl rfl (step_R rfl (evR_loads rfl rfl rfl rfl rfl (by exact (cellsR_part0 (R := rwAct) hx (by exact Nat.le_of_ble_eq_true rfl))) (by exact rfl))) (by simp only [List.drop_zero, List.drop_succ_cons, List.take_succ_cons, List.take_zero, rwBk, rwAct]; exact rfl) ?_
    refine jn ?_
    refine js ?_
    refine je ?_
    iterate 2 refine jq ?_
    refine jg ?_
    refine jP ?_
    refine jo ?_
    refine je ?_
    refine WS.pblock rfl ?_
    refine jq ?_
    refine jg ?_
    refine jB false ?_
    refine jo ?_
    refine je ?_
    refine WS.pcondF rfl rfl ?_
    refine jq ?_
    refine jg ?_
    refine jB false ?_
    refine jo ?_
    refine je ?_
    refine WS.pcondF rfl rfl ?_
    refine jq ?_
    refine jg ?_
    refine jB true ?_
    refine jo ?_
    refine je ?_
    refine WS.pcondT rfl rfl ?_
    refine jq ?_
    refine jg ?_
    refine jo ?_
    refine jP ?_
    refine jo ?_
    refine jc [1,2,3] R1 (by simp [jOb]) (by simp [jEb, jOb, jMb, mapL_cellsR, okL_cellsR]) ?_; rintro _ _ ⟨rfl, rfl⟩ -; simp only [jPg, jMb, ll, Nat.reduceAdd, Nat.reduceLT, Nat.zero_add, if_true, if_false, Nat.reduceSub, reduceIte, mapL_cellsR, Nat.lt_irrefl, Nat.not_lt_zero, Nat.zero_lt_succ, Nat.lt_add_one]
    iterate 5 refine jo ?_
    refine je ?_
    refine jq ?_
    refine jg ?_
    refine jo ?_
    refine jP ?_
    refine jo ?_
    refine jc [4,5,6,7,8] R2 (by simp [jOb]) (by simp [jEb, jOb, jMb, mapL_cellsR, okL_cellsR]) ?_; rintro _ _ ⟨rfl, rfl⟩ -; simp only [jPg, jMb, ll, Nat.reduceAdd, Nat.reduceLT, Nat.zero_add, if_true, if_false, Nat.reduceSub, reduceIte, mapL_cellsR, Nat.lt_irrefl, Nat.not_lt_zero, Nat.zero_lt_succ, Nat.lt_add_one]
    iterate 5 refine jo ?_
    refine je ?_
    iterate 2 refine jq ?_
    refine jg ?_
    iterate 2 refine jo ?_
    refine jB false ?_
    iterate 3 refine jo ?_
    refine jc [] same_nil (by simp [jOb]) (by simp [jEb, jOb, jMb, mapL_cellsR, okL_cellsR]) ?_; rintro _ _ ⟨rfl, rfl⟩ -; simp only [jPg, jMb, ll, Nat.reduceAdd, Nat.reduceLT, Nat.zero_add, if_true, if_false, Nat.reduceSub, reduceIte, mapL_cellsR, Nat.lt_irrefl, Nat.not_lt_zero, Nat.zero_lt_succ, Nat.lt_add_one]
    refine jB false ?_
    refine jo ?_
    refine je ?_
    refine WS.pcondF rfl rfl ?_
    refine WS.pskip rfl ?_
    refine jq ?_
    refine jg ?_
    refine jo ?_
    refine je ?_
    refine WS.pblock rfl ?_
    refine WS.ploopI (σ := Unit) (τ := Unit) (fun _ => SSp b p l c (i, x) ++ [(11, .p (some (9,0))), (15, .sl none 0 0 false), (19, .i .i64 0)]) (fun _ => PM l x ++ [some ⟨[.i .i64 2, .i .i64 a, .i .i64 short, .i .u8 fill], 38, true⟩]) (fun _ => True) (fun _ => 0) (fun _ => SSp b p l c (i, x) ++ [(11, .p (some (9,0)))]) (fun _ => PM l x ++ [some ⟨[.i .i64 2, .i .i64 a, .i .i64 short, .i .u8 fill], 38, true⟩]) (fun _ => True) 3 [0,1,2,3,4,5,6,7,8,9] () rfl trivial (jSb (by simp [jVb, jOb, jMb, mapL_cellsR, okL_cellsR, SSp, PM, ndB, rfB, List.cons_append, List.nil_append]) (by simp only [jSl, jOb, jMb, Nat.reduceAdd, Nat.reduceLT, SSp, PM, ndB, rfB, List.cons_append, List.nil_append] <;> exact jClo)) rfl ?_ ?_
    · rintro ⟨⟩ -
      simp only [SSp, PM, ndB, rfB, List.cons_append, List.nil_append]
      iterate 2 refine jq ?_
      refine jg ?_
      iterate 3 refine jo ?_
      refine jB false ?_
      refine je ?_
      refine WS.pcondF rfl rfl ?_
      refine WS.pout rfl rfl ?_
      exact ⟨rfl, (), trivial, (jSn [0,1,2,3,4,5,6,7,8,9] (by simp [jVb, jOb, jMb, mapL_cellsR, okL_cellsR, SSp, PM, ndB, rfB, List.cons_append, List.nil_append]) (by simp only [jSl, jOb, jMb, Nat.reduceAdd, Nat.reduceLT, SSp, PM, ndB, rfB, List.cons_append, List.nil_append] <;> exact jClo))⟩
    · rintro _ -
      simp only [SSp, PM, ndB, rfB, List.cons_append, List.nil_append]
      refine jq ?_
      refine jg ?_
      iterate 2 refine jo ?_
      refine jP ?_
      refine jo ?_
      refine jc [1,2,3,4,5,6,7,8] I (by simp [jOb]) (by simp [jEb, jOb, jMb, mapL_cellsR, okL_cellsR]) ?_; rintro _ _ ⟨rfl, rfl⟩ -; simp only [jPg, jMb, ll, Nat.reduceAdd, Nat.reduceLT, Nat.zero_add, if_true, if_false, Nat.reduceSub, reduceIte, mapL_cellsR, Nat.lt_irrefl, Nat.not_lt_zero, Nat.zero_lt_succ, Nat.lt_add_one]
      refine jB false ?_
      refine je ?_
      refine WS.pcondF rfl rfl ?_
      refine WS.pskip rfl ?_
      refine jg ?_
      refine jo ?_
      refine jW ?_
      refine jo ?_
      refine je ?_
      refine WS.nil ?_
      exact ⟨(i + 1, rdS x np a), inv_next a hi hl H (by omega) (by omega) (by omega), by simp only; omega, (jSn [0,1,2,3,4,5,6,7,8] (by simp [jVb, jOb, jMb, mapL_cellsR, okL_cellsR, SSp, PM, ndB, rfB]) (by simp only [jSl, jOb, jMb, Nat.reduceAdd, Nat.reduceLT, SSp, PM, ndB, rfB] <;> exact jClo))⟩
  · obtain ⟨page, rfl⟩ : ∃ n : Nat, a = n := ⟨a.toNat, by omega⟩
    cases hof : x.off with
    | true =>
      have R1 := read_no x page np 7 H.hp H.np2 H.bk2 (.inr ⟨hin, hof, rfl⟩)
      have R2 := rread_no x page np 7 H.hp H.np2 H.bk2 (.inr ⟨hin, hof, rfl⟩)
      have I := is_walk x np page H
      simp only [isM, ndM, rfM, rfB, List.cons_append, List.nil_append] at I R1 R2
      simp only [SSp, PM, ndB, rfB, List.cons_append, List.nil_append]
      iterate 2 refine jq ?_
      refine jg ?_
      iterate 3 refine jo ?_
      refine jDT ?_
      refine je ?_
      refine WS.pcondT rfl rfl ?_
      refine WS.pskip rfl ?_
      refine jq ?_
      refine WS.pblock rfl ?_
      refine jq ?_
      refine jg ?_
      iterate 2 refine jo ?_
      refine jI ?_
      refine WS.poA (tb := tb) rfl rfl rfl rfl (step_R rfl (evR_loads rfl rfl rfl rfl rfl (by exact (cellsR_part0 (R := rwAct) hx (by exact Nat.le_of_ble_eq_true rfl))) (by exact rfl))) (by simp only [List.drop_zero, List.drop_succ_cons, List.take_succ_cons, List.take_zero, rwBk, rwAct]; exact rfl) ?_
      refine jn ?_
      refine js ?_
      refine je ?_
      iterate 2 refine jq ?_
      refine jg ?_
      refine jP ?_
      refine jo ?_
      refine je ?_
      refine WS.pblock rfl ?_
      refine jq ?_
      refine jg ?_
      refine jB false ?_
      refine jo ?_
      refine je ?_
      refine WS.pcondF rfl rfl ?_
      refine jq ?_
      refine jg ?_
      refine jB false ?_
      refine jo ?_
      refine je ?_
      refine WS.pcondF rfl rfl ?_
      refine jq ?_
      refine jg ?_
      refine jB true ?_
      refine jo ?_
      refine je ?_
      refine WS.pcondT rfl rfl ?_
      refine jq ?_
      refine jg ?_
      refine jo ?_
      refine jP ?_
      refine jo ?_
      refine jc [1,2,3] R1 (by simp [jOb]) (by simp [jEb, jOb, jMb, mapL_cellsR, okL_cellsR]) ?_; rintro _ _ ⟨rfl, rfl⟩ -; simp only [jPg, jMb, ll, Nat.reduceAdd, Nat.reduceLT, Nat.zero_add, if_true, if_false, Nat.reduceSub, reduceIte, mapL_cellsR, Nat.lt_irrefl, Nat.not_lt_zero, Nat.zero_lt_succ, Nat.lt_add_one]
      iterate 5 refine jo ?_
      refine je ?_
      refine jq ?_
      refine jg ?_
      refine jo ?_
      refine jP ?_
      refine jo ?_
      refine jc [4,5,6,7,8] R2 (by simp [jOb]) (by simp [jEb, jOb, jMb, mapL_cellsR, okL_cellsR]) ?_; rintro _ _ ⟨rfl, rfl⟩ -; simp only [jPg, jMb, ll, Nat.reduceAdd, Nat.reduceLT, Nat.zero_add, if_true, if_false, Nat.reduceSub, reduceIte, mapL_cellsR, Nat.lt_irrefl, Nat.not_lt_zero, Nat.zero_lt_succ, Nat.lt_add_one]
      iterate 5 refine jo ?_
      refine je ?_
      iterate 2 refine jq ?_
      refine jg ?_
      iterate 2 refine jo ?_
      refine jB false ?_
      iterate 3 refine jo ?_
      refine jc [] same_nil (by simp [jOb]) (by simp [jEb, jOb, jMb, mapL_cellsR, okL_cellsR]) ?_; rintro _ _ ⟨rfl, rfl⟩ -; simp only [jPg, jMb, ll, Nat.reduceAdd, Nat.reduceLT, Nat.zero_add, if_true, if_false, Nat.reduceSub, reduceIte, mapL_cellsR, Nat.lt_irrefl, Nat.not_lt_zero, Nat.zero_lt_succ, Nat.lt_add_one]
      refine jB false ?_
      refine jo ?_
      refine je ?_
      refine WS.pcondF rfl rfl ?_
      refine WS.pskip rfl ?_
      refine jq ?_
      refine jg ?_
      refine jo ?_
      refine je ?_
      refine WS.pblock rfl ?_
      refine WS.ploopI (σ := Unit) (τ := Unit) (fun _ => SSp b p l c (i, x) ++ [(11, .p (some (9,0))), (15, .sl none 0 0 false), (19, .i .i64 0)]) (fun _ => PM l x ++ [some ⟨[.i .i64 2, .i .i64 page, .i .i64 short, .i .u8 fill], 38, true⟩]) (fun _ => True) (fun _ => 0) (fun _ => SSp b p l c (i, x) ++ [(11, .p (some (9,0)))]) (fun _ => PM l x ++ [some ⟨[.i .i64 2, .i .i64 page, .i .i64 short, .i .u8 fill], 38, true⟩]) (fun _ => True) 3 [0,1,2,3,4,5,6,7,8,9] () rfl trivial (jSb (by simp [jVb, jOb, jMb, mapL_cellsR, okL_cellsR, SSp, PM, ndB, rfB, List.cons_append, List.nil_append]) (by simp only [jSl, jOb, jMb, Nat.reduceAdd, Nat.reduceLT, SSp, PM, ndB, rfB, List.cons_append, List.nil_append] <;> exact jClo)) rfl ?_ ?_
      · rintro ⟨⟩ -
        simp only [SSp, PM, ndB, rfB, List.cons_append, List.nil_append]
        iterate 2 refine jq ?_
        refine jg ?_
        iterate 3 refine jo ?_
        refine jB false ?_
        refine je ?_
        refine WS.pcondF rfl rfl ?_
        refine WS.pout rfl rfl ?_
        exact ⟨rfl, (), trivial, (jSn [0,1,2,3,4,5,6,7,8,9] (by simp [jVb, jOb, jMb, mapL_cellsR, okL_cellsR, SSp, PM, ndB, rfB, List.cons_append, List.nil_append]) (by simp only [jSl, jOb, jMb, Nat.reduceAdd, Nat.reduceLT, SSp, PM, ndB, rfB, List.cons_append, List.nil_append] <;> exact jClo))⟩
      · rintro _ -
        simp only [SSp, PM, ndB, rfB, List.cons_append, List.nil_append]
        refine jq ?_
        refine jg ?_
        iterate 2 refine jo ?_
        refine jP ?_
        refine jo ?_
        refine jc [1,2,3,4,5,6,7,8] I (by simp [jOb]) (by simp [jEb, jOb, jMb, mapL_cellsR, okL_cellsR]) ?_; rintro _ _ ⟨rfl, rfl⟩ -; simp only [jPg, jMb, ll, Nat.reduceAdd, Nat.reduceLT, Nat.zero_add, if_true, if_false, Nat.reduceSub, reduceIte, mapL_cellsR, Nat.lt_irrefl, Nat.not_lt_zero, Nat.zero_lt_succ, Nat.lt_add_one]
        refine jB false ?_
        refine je ?_
        refine WS.pcondF rfl rfl ?_
        refine WS.pskip rfl ?_
        refine jg ?_
        refine jo ?_
        refine jW ?_
        refine jo ?_
        refine je ?_
        refine WS.nil ?_
        exact ⟨(i + 1, rdS x np page), inv_next page hi hl H (by omega) (by omega) (by omega), by simp only; omega, (jSn [0,1,2,3,4,5,6,7,8] (by simp [jVb, jOb, jMb, mapL_cellsR, okL_cellsR, SSp, PM, ndB, rfB]) (by simp only [jSl, jOb, jMb, Nat.reduceAdd, Nat.reduceLT, SSp, PM, ndB, rfB] <;> exact jClo))⟩
    | false =>
      have R1 := read_ok x page np H.hp H.np2 H.bk2 (by omega) hof H.bs (by have := H.rd2; omega) H.rd1
      have R2 := rread_ok x page np H.hp H.np2 H.bk2 (by omega) hof H.bs (by have := H.rd2; omega) H.rd1
      have hbs := H.bs
      have hl68 : ((x.bs.drop (page * 68)).take 68).length = 68 := by rw [List.length_take, List.length_drop, hbs]; omega
      have SM := same_walk ((x.bs.drop (page * 68)).take 68) 68 68 68 true true hl68
      have H' : NOk { x with rd := x.rd + 1 } np := nok_of H ⟨rfl, rfl, rfl⟩ H.nx H.wr H.cut1 H.cut2 H.fail1 H.fail2 (by have := H.rd1; simp only; omega) (by simp only; omega) H.pr1 H.pr2 H.er1 H.er2
      have I := is_walk { x with rd := x.rd + 1 } np page H'
      generalize hD : (x.bs.drop (page * 68)).take 68 = D at *
      simp only [isM, ndM, rfM, rfB, List.cons_append, List.nil_append] at I R1 R2
      simp only [SSp, PM, ndB, rfB, List.cons_append, List.nil_append]
      iterate 2 refine jq ?_
      refine jg ?_
      iterate 3 refine jo ?_
      refine jDT ?_
      refine je ?_
      refine WS.pcondT rfl rfl ?_
      refine WS.pskip rfl ?_
      refine jq ?_
      refine WS.pblock rfl ?_
      refine jq ?_
      refine jg ?_
      iterate 2 refine jo ?_
      refine jI ?_
      refine WS.poA (tb := tb) rfl rfl rfl rfl (step_R rfl (evR_loads rfl rfl rfl rfl rfl (by exact (cellsR_part0 (R := rwAct) hx (by exact Nat.le_of_ble_eq_true rfl))) (by exact rfl))) (by simp only [List.drop_zero, List.drop_succ_cons, List.take_succ_cons, List.take_zero, rwBk, rwAct]; exact rfl) ?_
      refine jn ?_
      refine js ?_
      refine je ?_
      iterate 2 refine jq ?_
      refine jg ?_
      refine jP ?_
      refine jo ?_
      refine je ?_
      refine WS.pblock rfl ?_
      refine jq ?_
      refine jg ?_
      refine jB false ?_
      refine jo ?_
      refine je ?_
      refine WS.pcondF rfl rfl ?_
      refine jq ?_
      refine jg ?_
      refine jB false ?_
      refine jo ?_
      refine je ?_
      refine WS.pcondF rfl rfl ?_
      refine jq ?_
      refine jg ?_
      refine jB true ?_
      refine jo ?_
      refine je ?_
      refine WS.pcondT rfl rfl ?_
      refine jq ?_
      refine jg ?_
      refine jo ?_
      refine jP ?_
      refine jo ?_
      refine jc [1,2,3] R1 (by simp [jOb]) (by simp [jEb, jOb, jMb, mapL_cellsR, okL_cellsR]) ?_; rintro _ _ ⟨rfl, rfl⟩ -; simp only [jPg, jMb, ll, Nat.reduceAdd, Nat.reduceLT, Nat.zero_add, if_true, if_false, Nat.reduceSub, reduceIte, mapL_cellsR, Nat.lt_irrefl, Nat.not_lt_zero, Nat.zero_lt_succ, Nat.lt_add_one]
      iterate 5 refine jo ?_
      refine je ?_
      refine jq ?_
      refine jg ?_
      refine jo ?_
      refine jP ?_
      refine jo ?_
      refine jc [4,5,6,7,8] R2 (by simp [jOb]) (by simp [jEb, jOb, jMb, mapL_cellsR, okL_cellsR]) ?_; rintro _ _ ⟨rfl, rfl⟩ -; simp only [jPg, jMb, ll, Nat.reduceAdd, Nat.reduceLT, Nat.zero_add, if_true, if_false, Nat.reduceSub, reduceIte, mapL_cellsR, Nat.lt_irrefl, Nat.not_lt_zero, Nat.zero_lt_succ, Nat.lt_add_one]
      iterate 5 refine jo ?_
      refine je ?_
      iterate 2 refine jq ?_
      refine jg ?_
      iterate 2 refine jo ?_
      refine jB false ?_
      iterate 3 refine jo ?_
      refine jc [10,11] SM (by simp [jOb]) (by simp [jEb, jOb, jMb, mapL_cellsR, okL_cellsR]) ?_; rintro _ _ ⟨rfl, rfl⟩ -; simp only [jPg, jMb, ll, Nat.reduceAdd, Nat.reduceLT, Nat.zero_add, if_true, if_false, Nat.reduceSub, reduceIte, mapL_cellsR, Nat.lt_irrefl, Nat.not_lt_zero, Nat.zero_lt_succ, Nat.lt_add_one]
      refine jB false ?_
      refine jo ?_
      refine je ?_
      refine WS.pcondF rfl rfl ?_
      refine WS.pskip rfl ?_
      refine jq ?_
      refine jg ?_
      refine jo ?_
      refine je ?_
      refine WS.pblock rfl ?_
      refine WS.ploopI (σ := Nat) (τ := Unit) (fun k => SSp b p l c (i, x) ++ [(11, .p (some (9,0))), (15, .sl (some (10,0)) 68 68 true), (19, .i .i64 k)]) (fun k => PM l { x with rd := x.rd + 1 } ++ [some ⟨[.i .i64 2, .i .i64 page, .i .i64 short, .i .u8 fill], 38, true⟩, some ⟨cellsR (rwI .u8) (over2 D 0 (List.replicate k 99)), 5, true⟩]) (fun k => k ≤ 68) (fun k => 68 - k)
        (fun _ => SSp b p l c (i, x) ++ [(11, .p (some (9,0)))]) (fun _ => PM l { x with rd := x.rd + 1 } ++ [some ⟨[.i .i64 2, .i .i64 page, .i .i64 short, .i .u8 fill], 38, true⟩]) (fun _ => True) 3 [0,1,2,3,4,5,6,7,8,9,10] 0 rfl (Nat.zero_le _) (jSb (by simp [jVb, jOb, jMb, mapL_cellsR, okL_cellsR, SSp, PM, ndB, rfB, List.cons_append, List.nil_append, List.replicate_zero, over2_nil]) (by simp only [jSl, jOb, jMb, Nat.reduceAdd, Nat.reduceLT, SSp, PM, ndB, rfB, List.cons_append, List.nil_append, List.replicate_zero, over2_nil] <;> exact jClo)) rfl ?_ ?_
      · intro k hk
        have hlk : (over2 D 0 (List.replicate k 99)).length = 68 := (over2_len (by rw [List.length_replicate]; omega)).trans hl68
        simp only [SSp, PM, ndB, rfB, List.cons_append, List.nil_append]
        by_cases hlt : k < 68
        · have hs := over2_set (xs := D) (ys := List.replicate (k + 1) 99) (o := 0) (i := k) (y := 99) (by rw [List.getElem?_replicate, if_pos (by omega)]) (by rw [List.length_replicate]; omega)
          rw [List.take_replicate, List.take_replicate, Nat.min_eq_left (by omega), Nat.min_eq_left (by omega), Nat.zero_add] at hs
          have hst := (cellsI_set (k := .u8) (xs := over2 D 0 (List.replicate k 99)) (x := 99) (i := k) (by omega)).trans (congrArg _ hs)
          iterate 2 refine jq ?_
          refine jg ?_
          iterate 3 refine jo ?_
          refine jDT ?_
          refine je ?_
          refine WS.pcondT rfl rfl ?_
          refine WS.pskip rfl ?_
          refine jq ?_
          refine WS.pblock rfl ?_
          refine jg ?_
          iterate 2 refine jo ?_
          refine jI ?_
          refine WS.po0 (tb := tb) rfl rfl rfl rfl (step_H rfl rfl (evH_store rfl rfl rfl rfl rfl (Nat.zero_le _) rfl (by simp [vcells]) (by simp only [Bk_len, Act_len, vcells, List.length_cons, List.length_nil, cellsI_len, cellsB_len, List.length_set, List.length_replicate, List.length_append, List.length_map, List.length_take, List.length_drop, hlk]; omega))) ?_; rw [upd_mem _ rfl]; simp only [vcells, List.set_cons_zero, List.set_cons_succ, hst]; (try simp only [setL, List.set_cons_zero, List.set_cons_succ])
          refine je ?_
          refine jg ?_
          refine jo ?_
          refine jW ?_
          refine jo ?_
          refine je ?_
          refine WS.nil ?_
          exact ⟨k + 1, by omega, by omega, (jSn [0,1,2,3,4,5,6,7,8,9,10] (by simp [jVb, jOb, jMb, mapL_cellsR, okL_cellsR, SSp, PM, ndB, rfB, List.cons_append, List.nil_append]) (by simp only [jSl, jOb, jMb, Nat.reduceAdd, Nat.reduceLT, SSp, PM, ndB, rfB, List.cons_append, List.nil_append] <;> exact jClo))⟩
        · obtain rfl : k = 68 := by omega
          iterate 2 refine jq ?_
          refine jg ?_
          iterate 3 refine jo ?_
          refine jB false ?_
          refine je ?_
          refine WS.pcondF rfl rfl ?_
          refine WS.pout rfl rfl ?_
          exact ⟨rfl, (), trivial, (jSn [0,1,2,3,4,5,6,7,8,9] (by simp [jVb, jOb, jMb, mapL_cellsR, okL_cellsR, SSp, PM, ndB, rfB, List.cons_append, List.nil_append]) (by simp only [jSl, jOb, jMb, Nat.reduceAdd, Nat.reduceLT, SSp, PM, ndB, rfB, List.cons_append, List.nil_append] <;> exact jClo))⟩
      · rintro _ -
        simp only [SSp, PM, ndB, rfB, List.cons_append, List.nil_append]
        refine jq ?_
        refine jg ?_
        iterate 2 refine jo ?_
        refine jP ?_
        refine jo ?_
        refine jc [1,2,3,4,5,6,7,8] I (by simp [jOb]) (by simp [jEb, jOb, jMb, mapL_cellsR, okL_cellsR]) ?_; rintro _ _ ⟨rfl, rfl⟩ -; simp only [jPg, jMb, ll, Nat.reduceAdd, Nat.reduceLT, Nat.zero_add, if_true, if_false, Nat.reduceSub, reduceIte, mapL_cellsR, Nat.lt_irrefl, Nat.not_lt_zero, Nat.zero_lt_succ, Nat.lt_add_one]
        refine jB false ?_
        refine je ?_
        refine WS.pcondF rfl rfl ?_
        refine WS.pskip rfl ?_
        refine jg ?_
        refine jo ?_
        refine jW ?_
        refine jo ?_
        refine je ?_
        refine WS.nil ?_
        exact ⟨(i + 1, rdS { x with rd := x.rd + 1 } np page), inv_next page hi hl H' (by simp only; omega) (by simp only; omega) (by simp only; omega), by simp only; omega, (jSn [0,1,2,3,4,5,6,7,8] (by simp [jVb, jOb, jMb, mapL_cellsR, okL_cellsR, SSp, PM, ndB, rfB]) (by simp only [jSl, jOb, jMb, Nat.reduceAdd, Nat.reduceLT, SSp, PM, ndB, rfB] <;> exact jClo))⟩
end Go.Proofs.Ytmkolibmadbenaa.Am

