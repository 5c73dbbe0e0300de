/- Functions of the flash, walked. Conditions: those of each theorem. -/
import Derived.Test.YtmkolibmadbenaaAm5
import Derived.Test.YtmkolibmadbenaaNp2
namespace Go.Proofs.Ytmkolibmadbenaa.Am
open Go.Proofs
set_option maxRecDepth 1000000
set_option maxHeartbeats 4000000
set_option linter.unusedSimpArgs false
set_option linter.unusedVariables false
structure NOk (x : NS) (np : Nat) : Prop where
  hp : (x.bk.length : Int) * x.p = (np : Int)
  np1 : 1 ≤ np
  np2 : np ≤ 10000
  bk1 : 1 ≤ x.bk.length
  bk2 : x.bk.length ≤ 1000
  p1 : 1 ≤ x.p
  p2 : x.p ≤ 32
  bs : x.bs.length = np * 68
  nx : ∀ y ∈ x.bk, 0 ≤ y.next ∧ y.next ≤ x.p
  wr : ∀ y ∈ x.bk, 0 ≤ y.wear ∧ y.wear ≤ x.er
  cut1 : -1 ≤ x.cut
  cut2 : x.cut ≤ 9223372036854775807
  fail1 : -1 ≤ x.fail
  fail2 : x.fail ≤ 9223372036854775807
  rd1 : 0 ≤ x.rd
  pr1 : 0 ≤ x.pr
  er1 : 0 ≤ x.er
  rd2 : x.rd ≤ 1000
  pr2 : x.pr ≤ 1000
  er2 : x.er ≤ 1000
/-- What a read leaves. -/
def rdS (x : NS) (np : Nat) (z : Int) : NS := if (0 ≤ z ∧ z < np) ∧ x.off = false then { x with rd := x.rd + 1 } else x
theorem is_walk (x : NS) (np : Nat) (z : Int) (H : NOk x np) :
    FM Try.prog 23 [.p (some (2,0)), .p (some (7,0)), .i .i64 z] (isM x) (fun v M' => v = .b true ∧ M' = isM (rdS x np z)) := by
  obtain ⟨hp, np1, np2, bk1, bk2, p1, p2, hbs, hnx, hwr, cut1, cut2, fail1, fail2, rd1, pr1, er1, rd2, pr2, er2⟩ := H
  have hb255 : ∀ y ∈ x.bk, 0 ≤ y.next ∧ y.next ≤ 255 := fun y hy => by have := hnx y hy; omega
  have ST := stat_walk x
  obtain ⟨hp1, P1⟩ := is_power x
  have P2 := is_image x (by omega) (by omega) bk2 hb255
  have P3 := is_rimage x (by omega) (by omega) bk2 hb255
  obtain ⟨hs1, P4⟩ := is_same x
  have hoo : (!((!x.off) == (!x.off))) = false := by simp
  have hbo : ∀ b : Bool, (!(b == b)) = false := by simp
  refine FM.pbodyV (tb := tb) (fn := Try.f23) rfl rfl ?_
  simp only [argS, Nat.reduceAdd, isM, ndM, rfB, List.length_cons, List.length_nil, List.cons_append, List.nil_append]
  refine jq ?_
  refine jg ?_
  refine jo ?_
  refine je ?_
  refine jq ?_
  refine jg ?_
  refine jo ?_
  refine jc [0,1,2] ST (by simp [jOb, ndR]) (by simp [jEb, jOb, jMb, mapL_cellsR, okL_cellsR, ndR]) ?_; rintro _ _ ⟨rfl, rfl⟩ -; simp only [jPg, jMb, ll, Nat.reduceAdd, Nat.reduceLT, Nat.zero_add, if_true, if_false, Nat.reduceSub, reduceIte, mapL_cellsR, Nat.lt_irrefl, Nat.not_lt_zero, Nat.zero_lt_succ, Nat.lt_add_one, ndR]
  refine jn ?_
  refine js ?_
  refine je ?_
  iterate 2 refine jq ?_
  refine WS.pdrawG (tb := tb) [29, 21] (good_one P1 (good_one P2 (good_one P3 (good_one P4 good_none)))) (by kernel_rfl) rfl (by kernel_rfl) (by kernel_rfl) ?_
  refine jp ?_
  refine WD.callQ (tb := tb) rfl rfl rfl rfl rfl rfl rfl rfl one_hit rfl ?_
  iterate 2 refine jp ?_
  refine jd ?_
  refine jr ?_
  refine WD.pB (tb := tb) false rfl rfl rfl rfl rfl (by assumption) ?_
  refine jp ?_
  refine jd ?_
  refine jr ?_
  iterate 2 refine jp ?_
  refine jd ?_
  refine jr ?_
  refine jdNF ?_
  iterate 2 refine jp ?_
  refine jd ?_
  refine jr ?_
  iterate 2 refine jp ?_
  refine jd ?_
  refine jr ?_
  refine jdNF ?_
  iterate 2 refine jp ?_
  refine jd ?_
  refine jr ?_
  iterate 2 refine jp ?_
  refine jd ?_
  refine jr ?_
  refine jdNF ?_
  iterate 3 refine jp ?_
  refine WD.callE (tb := tb) rfl rfl rfl rfl rfl rfl rfl rfl rfl ((one_skip rfl).trans ((one_lock rfl).trans ((one_skip rfl).trans (one_skip rfl)))) ((one_skip rfl).trans one_hit) ?_; (try simp only [List.cons_append, List.nil_append, isN, isM, ndM, rfB, imB])
  refine jp ?_
  refine WD.callE (tb := tb) rfl rfl rfl rfl rfl rfl rfl rfl rfl ((one_skip rfl).trans ((one_skip rfl).trans ((one_lock rfl).trans (one_skip rfl)))) ((one_skip rfl).trans ((one_skip rfl).trans one_hit)) ?_; (try simp only [List.cons_append, List.nil_append, isN, isM, ndM, rfB, imB])
  refine WD.callQ (tb := tb) rfl rfl rfl rfl rfl rfl rfl rfl one_hit rfl ?_
  refine WD.pB (tb := tb) false rfl rfl rfl rfl rfl rfl ?_
  refine jp ?_
  refine WD.fin rfl ?_
  refine WS.pcondF rfl rfl ?_
  refine WS.pskip rfl ?_
  iterate 2 refine jq ?_
  refine jg ?_
  refine jo ?_
  refine je ?_
  refine WS.pblock rfl ?_
  refine WS.ploopI (σ := Nat) (τ := Unit) (fun i => [(0, .p (some (2,0))), (1, .p (some (7,0))), (2, .i .i64 z), (8, .i .i64 ((i : Int) - 1))]) (fun _ => isM x) (fun i => i ≤ x.bk.length + 2) (fun i => x.bk.length + 2 - i)
    (fun _ => [(0, .p (some (2,0))), (1, .p (some (7,0))), (2, .i .i64 z)]) (fun _ => isM x) (fun _ => True) 0 [0,1,2,3,4,5,6,7] 0 rfl (Nat.zero_le _) (jSb (by simp [jVb, jOb, jMb, mapL_cellsR, okL_cellsR, isM, ndM, rfB]) (by simp only [jSl, jOb, jMb, Nat.reduceAdd, Nat.reduceLT, isM, ndM, rfB] <;> exact jClo)) rfl ?_ ?_
  · intro i hi
    have N1 := next_no x ((i : Int) - 1)
    have N2 := badq_no x ((i : Int) - 1)
    simp only [isM, ndM, ndR, rfB, List.cons_append, List.nil_append] at N1 N2 ⊢
    by_cases h0 : i = 0
    · have N1 := N1 (by omega) (by omega)
      have N2 := N2 (by omega) (by omega)
      iterate 2 refine jq ?_
      refine jg ?_
      iterate 3 refine jo ?_
      refine jP ?_
      refine jo ?_
      refine jDT ?_
      refine je ?_
      refine WS.pcondT rfl rfl ?_
      refine WS.pskip rfl ?_
      refine jq ?_
      refine WS.pblock rfl ?_
      refine jq ?_
      refine jg ?_
      iterate 2 refine jo ?_
      refine jc [0,1,2] N1 (by simp [jOb]) (by simp [jEb, jOb, jMb, mapL_cellsR, okL_cellsR]) ?_; rintro _ _ ⟨rfl, rfl⟩ -; simp only [jPg, jMb, ll, Nat.reduceAdd, Nat.reduceLT, Nat.zero_add, if_true, if_false, Nat.reduceSub, reduceIte, mapL_cellsR, Nat.lt_irrefl, Nat.not_lt_zero, Nat.zero_lt_succ, Nat.lt_add_one]
      iterate 5 refine jo ?_
      refine je ?_
      refine jq ?_
      refine jg ?_
      iterate 2 refine jo ?_
      refine jc [0,1,2] N2 (by simp [jOb]) (by simp [jEb, jOb, jMb, mapL_cellsR, okL_cellsR]) ?_; rintro _ _ ⟨rfl, rfl⟩ -; simp only [jPg, jMb, ll, Nat.reduceAdd, Nat.reduceLT, Nat.zero_add, if_true, if_false, Nat.reduceSub, reduceIte, mapL_cellsR, Nat.lt_irrefl, Nat.not_lt_zero, Nat.zero_lt_succ, Nat.lt_add_one]
      iterate 5 refine jo ?_
      refine je ?_
      iterate 2 refine jq ?_
      refine jg ?_
      refine jo ?_
      refine jDT ?_
      refine jo ?_
      iterate 6 refine jN ?_
      refine jo ?_
      refine je ?_
      refine WS.pcondT rfl rfl ?_
      iterate 2 refine jq ?_
      refine jg ?_
      refine jo ?_
      refine jB false ?_
      iterate 2 refine jo ?_
      refine jB false ?_
      iterate 3 refine jo ?_
      refine jB false ?_
      iterate 4 refine jo ?_
      refine je ?_
      refine WS.pcondF rfl rfl ?_
      refine WS.pskip rfl ?_
      refine WS.pexit rfl rfl ?_
      refine jg ?_
      refine jo ?_
      refine jW ?_
      refine jo ?_
      refine je ?_
      refine WS.nil ?_
      exact ⟨i + 1, by omega, by omega, (jSn [0,1,2,3,4,5,6,7] (by simp [jVb, jOb, jMb, mapL_cellsR, okL_cellsR, isM, ndM, rfB]) (by simp only [jSl, jOb, jMb, Nat.reduceAdd, Nat.reduceLT, isM, ndM, rfB] <;> exact jClo))⟩
    · by_cases h1 : i ≤ x.bk.length
      · obtain ⟨j, rfl⟩ : ∃ j, i = j + 1 := ⟨i - 1, by omega⟩
        have ej : (((j + 1 : Nat) : Int) - 1) = (j : Int) := by omega
        obtain ⟨y, hy⟩ : ∃ y, x.bk[j]? = some y := ⟨_, List.getElem?_eq_getElem (by omega)⟩
        have Y1 := next_yes x j y hy (by omega)
        have Y2 := badq_yes x j y hy (by omega)
        have g1 := map_get Bk.bad hy
        have g3 := map_get Bk.next hy
        have hbb := hbo y.bad
        simp only [ndR] at Y1 Y2
        simp only [ej]
        iterate 2 refine jq ?_
        refine jg ?_
        iterate 3 refine jo ?_
        refine jP ?_
        refine jo ?_
        refine jDT ?_
        refine je ?_
        refine WS.pcondT rfl rfl ?_
        refine WS.pskip rfl ?_
        refine jq ?_
        refine WS.pblock rfl ?_
        refine jq ?_
        refine jg ?_
        iterate 2 refine jo ?_
        refine jc [0,1,2] Y1 (by simp [jOb]) (by simp [jEb, jOb, jMb, mapL_cellsR, okL_cellsR]) ?_; rintro _ _ ⟨rfl, rfl⟩ -; simp only [jPg, jMb, ll, Nat.reduceAdd, Nat.reduceLT, Nat.zero_add, if_true, if_false, Nat.reduceSub, reduceIte, mapL_cellsR, Nat.lt_irrefl, Nat.not_lt_zero, Nat.zero_lt_succ, Nat.lt_add_one]
        iterate 5 refine jo ?_
        refine je ?_
        refine jq ?_
        refine jg ?_
        iterate 2 refine jo ?_
        refine jc [0,1,2] Y2 (by simp [jOb]) (by simp [jEb, jOb, jMb, mapL_cellsR, okL_cellsR]) ?_; rintro _ _ ⟨rfl, rfl⟩ -; simp only [jPg, jMb, ll, Nat.reduceAdd, Nat.reduceLT, Nat.zero_add, if_true, if_false, Nat.reduceSub, reduceIte, mapL_cellsR, Nat.lt_irrefl, Nat.not_lt_zero, Nat.zero_lt_succ, Nat.lt_add_one]
        iterate 5 refine jo ?_
        refine je ?_
        iterate 2 refine jq ?_
        refine jg ?_
        refine jo ?_
        refine jB false ?_
        iterate 4 refine jo ?_
        refine jP ?_
        refine jo ?_
        refine jDF ?_
        refine jo ?_
        refine je ?_
        refine WS.pcondF rfl rfl ?_
        refine WS.pskip rfl ?_
        refine jq ?_
        refine jg ?_
        refine jo ?_
        refine jB false ?_
        iterate 2 refine jo ?_
        refine jB false ?_
        iterate 5 refine jo ?_
        refine jP ?_
        iterate 2 refine jo ?_
        refine jI ?_
        refine WS.po (tb := tb) rfl rfl rfl rfl (step_R rfl (evR_load rfl rfl rfl rfl (cellsI_get g3))) ?_
        refine jNF ?_
        iterate 5 refine jo ?_
        refine jP ?_
        iterate 2 refine jo ?_
        refine jI ?_
        refine WS.po (tb := tb) rfl rfl rfl rfl (step_R rfl (evR_load rfl rfl rfl rfl (cellsB_get g1))) ?_
        refine WS.poB (tb := tb) false rfl rfl rfl rfl rfl (by assumption) ?_
        refine jo ?_
        refine je ?_
        refine WS.pcondF rfl rfl ?_
        refine WS.pskip rfl ?_
        refine jg ?_
        refine jo ?_
        refine jW ?_
        refine jo ?_
        refine je ?_
        refine WS.nil ?_
        have ek : (j : Int) + 1 = (((j + 1 + 1 : Nat) : Int) - 1) := by omega
        exact ⟨j + 1 + 1, by omega, by omega, (jSn [0,1,2,3,4,5,6,7] (by simp [jVb, jOb, jMb, mapL_cellsR, okL_cellsR, isM, ndM, rfB]) (by simp only [jSl, jOb, jMb, Nat.reduceAdd, Nat.reduceLT, isM, ndM, rfB] <;> exact jClo))⟩
      · by_cases h2 : i = x.bk.length + 1
        · have N1 := N1 (by omega) (by omega)
          have N2 := N2 (by omega) (by omega)
          iterate 2 refine jq ?_
          refine jg ?_
          iterate 3 refine jo ?_
          refine jP ?_
          refine jo ?_
          refine jDT ?_
          refine je ?_
          refine WS.pcondT rfl rfl ?_
          refine WS.pskip rfl ?_
          refine jq ?_
          refine WS.pblock rfl ?_
          refine jq ?_
          refine jg ?_
          iterate 2 refine jo ?_
          refine jc [0,1,2] N1 (by simp [jOb]) (by simp [jEb, jOb, jMb, mapL_cellsR, okL_cellsR]) ?_; rintro _ _ ⟨rfl, rfl⟩ -; simp only [jPg, jMb, ll, Nat.reduceAdd, Nat.reduceLT, Nat.zero_add, if_true, if_false, Nat.reduceSub, reduceIte, mapL_cellsR, Nat.lt_irrefl, Nat.not_lt_zero, Nat.zero_lt_succ, Nat.lt_add_one]
          iterate 5 refine jo ?_
          refine je ?_
          refine jq ?_
          refine jg ?_
          iterate 2 refine jo ?_
          refine jc [0,1,2] N2 (by simp [jOb]) (by simp [jEb, jOb, jMb, mapL_cellsR, okL_cellsR]) ?_; rintro _ _ ⟨rfl, rfl⟩ -; simp only [jPg, jMb, ll, Nat.reduceAdd, Nat.reduceLT, Nat.zero_add, if_true, if_false, Nat.reduceSub, reduceIte, mapL_cellsR, Nat.lt_irrefl, Nat.not_lt_zero, Nat.zero_lt_succ, Nat.lt_add_one]
          iterate 5 refine jo ?_
          refine je ?_
          iterate 2 refine jq ?_
          refine jg ?_
          refine jo ?_
          refine jDF ?_
          iterate 4 refine jo ?_
          refine jP ?_
          refine jo ?_
          refine jDT ?_
          refine jo ?_
          refine je ?_
          refine WS.pcondT rfl rfl ?_
          iterate 2 refine jq ?_
          refine jg ?_
          refine jo ?_
          refine jB false ?_
          iterate 2 refine jo ?_
          refine jB false ?_
          iterate 3 refine jo ?_
          refine jB false ?_
          iterate 4 refine jo ?_
          refine je ?_
          refine WS.pcondF rfl rfl ?_
          refine WS.pskip rfl ?_
          refine WS.pexit rfl rfl ?_
          refine jg ?_
          refine jo ?_
          refine jW ?_
          refine jo ?_
          refine je ?_
          refine WS.nil ?_
          exact ⟨i + 1, by omega, by omega, (jSn [0,1,2,3,4,5,6,7] (by simp [jVb, jOb, jMb, mapL_cellsR, okL_cellsR, isM, ndM, rfB]) (by simp only [jSl, jOb, jMb, Nat.reduceAdd, Nat.reduceLT, isM, ndM, rfB] <;> exact jClo))⟩
        · refine WS.pseq rfl ?_
          refine jq ?_
          refine jg ?_
          iterate 3 refine jo ?_
          refine jP ?_
          refine jo ?_
          refine jDF ?_
          refine je ?_
          refine WS.pcondF rfl rfl ?_
          refine WS.pout rfl rfl ?_
          exact ⟨rfl, (), trivial, (jSn [0,1,2,3,4,5,6,7] (by simp [jVb, jOb, jMb, mapL_cellsR, okL_cellsR, isM, ndM, rfB]) (by simp only [jSl, jOb, jMb, Nat.reduceAdd, Nat.reduceLT, isM, ndM, rfB] <;> exact jClo))⟩
  · rintro _ -
    by_cases hin : 0 ≤ z ∧ z < np
    · obtain ⟨page, rfl⟩ : ∃ n : Nat, z = n := ⟨z.toNat, by omega⟩
      cases ho : x.off with
      | true =>
        have R1 := read_no x page np 7 hp np2 bk2 (.inr ⟨by omega, ho, rfl⟩)
        have R2 := rread_no x page np 7 hp np2 bk2 (.inr ⟨by omega, ho, rfl⟩)
        have e : rdS x np page = x := by unfold rdS; rw [if_neg]; rintro ⟨_, h⟩; rw [ho] at h; cases h
        rw [e]
        simp only [ndM, rfM] at R1 R2
        simp only [isM, ndM, rfB, List.cons_append, List.nil_append]
        refine jq ?_
        refine jg ?_
        iterate 2 refine jo ?_
        refine jc [0,1,2] R1 (by simp [jOb]) (by simp [jEb, jOb, jMb, mapL_cellsR, okL_cellsR]) ?_; rintro _ _ ⟨rfl, rfl⟩ -; simp only [jPg, jMb, ll, Nat.reduceAdd, Nat.reduceLT, Nat.zero_add, if_true, if_false, Nat.reduceSub, reduceIte, mapL_cellsR, Nat.lt_irrefl, Nat.not_lt_zero, Nat.zero_lt_succ, Nat.lt_add_one]
        iterate 5 refine jo ?_
        refine je ?_
        refine jq ?_
        refine jg ?_
        iterate 2 refine jo ?_
        refine jc [3,4,5,6,7] R2 (by simp [jOb]) (by simp [jEb, jOb, jMb, mapL_cellsR, okL_cellsR]) ?_; rintro _ _ ⟨rfl, rfl⟩ -; simp only [jPg, jMb, ll, Nat.reduceAdd, Nat.reduceLT, Nat.zero_add, if_true, if_false, Nat.reduceSub, reduceIte, mapL_cellsR, Nat.lt_irrefl, Nat.not_lt_zero, Nat.zero_lt_succ, Nat.lt_add_one]
        iterate 5 refine jo ?_
        refine je ?_
        refine jq ?_
        refine jg ?_
        iterate 2 refine jo ?_
        refine jB true ?_
        iterate 3 refine jo ?_
        refine jc [] same_nil (by simp [jOb]) (by simp [jEb, jOb, jMb, mapL_cellsR, okL_cellsR]) ?_; rintro _ _ ⟨rfl, rfl⟩ -; simp only [jPg, jMb, ll, Nat.reduceAdd, Nat.reduceLT, Nat.zero_add, if_true, if_false, Nat.reduceSub, reduceIte, mapL_cellsR, Nat.lt_irrefl, Nat.not_lt_zero, Nat.zero_lt_succ, Nat.lt_add_one]
        iterate 2 refine jo ?_
        refine je ?_
        refine WS.pret rfl ⟨.inr rfl, _, rfl, ?_⟩
        exact ⟨_, rfl, [0,1,2,3,4,5,6,7], isM x, .b true, ⟨rfl, rfl, (by simp [jVb, jOb, jMb, mapL_cellsR, okL_cellsR, isM, ndM, rfB]), rfl⟩, rfl, trivial, rfl, rfl⟩
      | false =>
        have R1 := read_ok x page np hp np2 bk2 (by omega) ho hbs (by omega) rd1
        have R2 := rread_ok x page np hp np2 bk2 (by omega) ho hbs (by omega) rd1
        have e : rdS x np page = { x with rd := x.rd + 1 } := by unfold rdS; rw [if_pos ⟨hin, ho⟩]
        have hl : ((x.bs.drop (page * 68)).take 68).length = 68 := by rw [List.length_take, List.length_drop, hbs]; omega
        have SM := same_walk ((x.bs.drop (page * 68)).take 68) 68 68 68 true true hl
        rw [e]
        simp only [ndM, rfM, List.cons_append, List.nil_append] at R1 R2
        simp only [isM, ndM, rfB, List.cons_append, List.nil_append]
        refine jq ?_
        refine jg ?_
        iterate 2 refine jo ?_
        refine jc [0,1,2] R1 (by simp [jOb]) (by simp [jEb, jOb, jMb, mapL_cellsR, okL_cellsR]) ?_; rintro _ _ ⟨rfl, rfl⟩ -; simp only [jPg, jMb, ll, Nat.reduceAdd, Nat.reduceLT, Nat.zero_add, if_true, if_false, Nat.reduceSub, reduceIte, mapL_cellsR, Nat.lt_irrefl, Nat.not_lt_zero, Nat.zero_lt_succ, Nat.lt_add_one]
        iterate 5 refine jo ?_
        refine je ?_
        refine jq ?_
        refine jg ?_
        iterate 2 refine jo ?_
        refine jc [3,4,5,6,7] R2 (by simp [jOb]) (by simp [jEb, jOb, jMb, mapL_cellsR, okL_cellsR]) ?_; rintro _ _ ⟨rfl, rfl⟩ -; simp only [jPg, jMb, ll, Nat.reduceAdd, Nat.reduceLT, Nat.zero_add, if_true, if_false, Nat.reduceSub, reduceIte, mapL_cellsR, Nat.lt_irrefl, Nat.not_lt_zero, Nat.zero_lt_succ, Nat.lt_add_one]
        iterate 5 refine jo ?_
        refine je ?_
        refine jq ?_
        refine jg ?_
        iterate 2 refine jo ?_
        refine jB true ?_
        iterate 3 refine jo ?_
        refine jc [8,9] SM (by simp [jOb]) (by simp [jEb, jOb, jMb, mapL_cellsR, okL_cellsR]) ?_; rintro _ _ ⟨rfl, rfl⟩ -; simp only [jPg, jMb, ll, Nat.reduceAdd, Nat.reduceLT, Nat.zero_add, if_true, if_false, Nat.reduceSub, reduceIte, mapL_cellsR, Nat.lt_irrefl, Nat.not_lt_zero, Nat.zero_lt_succ, Nat.lt_add_one]
        iterate 2 refine jo ?_
        refine je ?_
        refine WS.pret rfl ⟨.inr rfl, _, rfl, ?_⟩
        exact ⟨_, rfl, [0,1,2,3,4,5,6,7], isM { x with rd := x.rd + 1 }, .b true, ⟨rfl, rfl, (by simp [jVb, jOb, jMb, mapL_cellsR, okL_cellsR, isM, ndM, rfB]), rfl⟩, rfl, trivial, rfl, rfl⟩
    · have R1 := read_no x z np 1 hp np2 bk2 (.inl ⟨by omega, rfl⟩)
      have R2 := rread_no x z np 1 hp np2 bk2 (.inl ⟨by omega, rfl⟩)
      have e : rdS x np z = x := by unfold rdS; rw [if_neg]; rintro ⟨h, _⟩; exact hin h
      rw [e]
      simp only [ndM, rfM] at R1 R2
      simp only [isM, ndM, rfB, List.cons_append, List.nil_append]
      refine jq ?_
      refine jg ?_
      iterate 2 refine jo ?_
      refine jc [0,1,2] R1 (by simp [jOb]) (by simp [jEb, jOb, jMb, mapL_cellsR, okL_cellsR]) ?_; rintro _ _ ⟨rfl, rfl⟩ -; simp only [jPg, jMb, ll, Nat.reduceAdd, Nat.reduceLT, Nat.zero_add, if_true, if_false, Nat.reduceSub, reduceIte, mapL_cellsR, Nat.lt_irrefl, Nat.not_lt_zero, Nat.zero_lt_succ, Nat.lt_add_one]
      iterate 5 refine jo ?_
      refine je ?_
      refine jq ?_
      refine jg ?_
      iterate 2 refine jo ?_
      refine jc [3,4,5,6,7] R2 (by simp [jOb]) (by simp [jEb, jOb, jMb, mapL_cellsR, okL_cellsR]) ?_; rintro _ _ ⟨rfl, rfl⟩ -; simp only [jPg, jMb, ll, Nat.reduceAdd, Nat.reduceLT, Nat.zero_add, if_true, if_false, Nat.reduceSub, reduceIte, mapL_cellsR, Nat.lt_irrefl, Nat.not_lt_zero, Nat.zero_lt_succ, Nat.lt_add_one]
      iterate 5 refine jo ?_
      refine je ?_
      refine jq ?_
      refine jg ?_
      iterate 2 refine jo ?_
      refine jB true ?_
      iterate 3 refine jo ?_
      refine jc [] same_nil (by simp [jOb]) (by simp [jEb, jOb, jMb, mapL_cellsR, okL_cellsR]) ?_; rintro _ _ ⟨rfl, rfl⟩ -; simp only [jPg, jMb, ll, Nat.reduceAdd, Nat.reduceLT, Nat.zero_add, if_true, if_false, Nat.reduceSub, reduceIte, mapL_cellsR, Nat.lt_irrefl, Nat.not_lt_zero, Nat.zero_lt_succ, Nat.lt_add_one]
      iterate 2 refine jo ?_
      refine je ?_
      refine WS.pret rfl ⟨.inr rfl, _, rfl, ?_⟩
      exact ⟨_, rfl, [0,1,2,3,4,5,6,7], isM x, .b true, ⟨rfl, rfl, (by simp [jVb, jOb, jMb, mapL_cellsR, okL_cellsR, isM, ndM, rfB]), rfl⟩, rfl, trivial, rfl, rfl⟩
end Go.Proofs.Ytmkolibmadbenaa.Am

