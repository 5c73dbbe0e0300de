/- Functions of the tree and of the law TreePlays, walked. Conditions: those of each theorem. -/
import Derived.Test.YtpogfelbimcglaaTr13
namespace Go.Proofs.Ytpogfelbimcglaa.Am
open Go.Proofs
set_option maxRecDepth 1000000
set_option maxHeartbeats 4000000
set_option linter.unusedSimpArgs false
set_option linter.unusedVariables false
theorem change_no (ps : List Pl) (fr lv len a b c : Int) (T : Tr) (hT : Rep ps T) (hf : fid a T = 0) (hm : ps.length ≤ 600) :
  FM Try.prog 14 [.p (some (2,0)), .agg [.i .i64 a, .i .i64 b, .i .i64 c]] (trM ps fr lv T.id len) (fun v M' => v = .i .i64 4 ∧ M' = trM ps fr lv T.id len) := by
  refine FM.pbodyV (tb := tb) (fn := Try.f14) rfl rfl ?_
  simp only [argS, Nat.reduceAdd, trM, arM, List.length_cons, List.length_nil, List.cons_append, List.nil_append]
  refine jq ?_
  refine jg ?_
  refine jn ?_
  refine jo ?_
  refine je ?_
  iterate 2 refine jq ?_
  refine jg ?_
  iterate 2 refine jo ?_
  refine jP ?_
  iterate 2 refine jo ?_
  refine je ?_
  refine WS.pblock rfl ?_
  refine WS.ploopI (σ := Tr) (τ := Unit) (fun a => [(0, .p (some (2,0))), (3, .p (some (3,0))), (4, .i .i64 0), (5, .i .u32 a.id)])
    (fun _ => trM ps fr lv T.id len ++ [some ⟨[.i .i64 a, .i .i64 b, .i .i64 c], 31, true⟩]) (fun U => Rep ps U ∧ fid a U = 0) (fun a => a.ht)
    (fun _ => []) (fun _ => trM ps fr lv T.id len) (fun _ => True) 0 [0,1,2,3] T rfl ⟨hT, hf⟩ (jSb (by simp [jVb, jOb, jMb, mapL_cellsR, okL_cellsR, trM, arM]) (by simp only [jSl, jOb, jMb, Nat.reduceAdd, Nat.reduceLT, trM, arM] <;> exact jClo)) rfl ?_ ?_
  · rintro U ⟨hU, hF⟩
    simp only [trM, arM, List.cons_append, List.nil_append]
    cases U with
    | lf =>
      simp only [id_lf]
      iterate 2 refine jq ?_
      refine jg ?_
      refine jo ?_
      refine jB false ?_
      refine je ?_
      refine WS.pcondF rfl rfl ?_
      refine WS.pout rfl rfl ?_
      exact ⟨rfl, (), trivial, (jSn [0,1,2] (by simp [jVb, jOb, jMb, mapL_cellsR, okL_cellsR, trM, arM]) (by simp only [jSl, jOb, jMb, Nat.reduceAdd, Nat.reduceLT, trM, arM] <;> exact jClo))⟩
    | nd id l x y z r =>
      obtain ⟨h0, ⟨nx, hp⟩, hl, hr⟩ := hU
      have G := tget_nd ps fr lv T.id len id _ hp rfl hm
      simp only [id_nd]
      simp only [fid] at hF
      by_cases h1 : a < x
      · rw [if_pos h1] at hF
        iterate 2 refine jq ?_
        refine jg ?_
        refine jo ?_
        refine jNT ?_
        refine je ?_
        refine WS.pcondT rfl rfl ?_
        refine WS.pskip rfl ?_
        refine WS.pblock rfl ?_
        refine jq ?_
        refine jg ?_
        iterate 2 refine jo ?_
        refine jc [0,1,2] G (by simp [jOb, trR, arR]) (by simp [jEb, jOb, jMb, mapL_cellsR, okL_cellsR, trR, arR]) ?_; rintro _ _ ⟨rfl, rfl⟩ -; simp only [jPg, jMb, ll, Nat.reduceAdd, Nat.reduceLT, Nat.zero_add, if_true, if_false, Nat.reduceSub, reduceIte, mapL_cellsR, Nat.lt_irrefl, Nat.not_lt_zero, Nat.zero_lt_succ, Nat.lt_add_one, trR, arR]
        refine jn ?_
        refine js ?_
        refine je ?_
        refine WS.pblock rfl ?_
        refine jq ?_
        refine jg ?_
        refine jP ?_
        refine jo ?_
        iterate 2 refine jP ?_
        refine jo ?_
        refine jDT ?_
        refine jo ?_
        refine je ?_
        refine WS.pcondT rfl rfl ?_
        refine jg ?_
        refine jP ?_
        iterate 2 refine jo ?_
        refine je ?_
        refine WS.bend ?_
        refine WS.bend ?_
        refine WS.nil ?_
        exact ⟨l, ⟨hl, hF⟩, by simp only [Tr.ht]; omega, (jSn [0,1,2,3] (by simp [jVb, jOb, jMb, mapL_cellsR, okL_cellsR, trM, arM]) (by simp only [jSl, jOb, jMb, Nat.reduceAdd, Nat.reduceLT, trM, arM] <;> exact jClo))⟩
      · rw [if_neg h1] at hF
        by_cases h2 : x < a
        · rw [if_pos h2] at hF
          iterate 2 refine jq ?_
          refine jg ?_
          refine jo ?_
          refine jNT ?_
          refine je ?_
          refine WS.pcondT rfl rfl ?_
          refine WS.pskip rfl ?_
          refine WS.pblock rfl ?_
          refine jq ?_
          refine jg ?_
          iterate 2 refine jo ?_
          refine jc [0,1,2] G (by simp [jOb, trR, arR]) (by simp [jEb, jOb, jMb, mapL_cellsR, okL_cellsR, trR, arR]) ?_; rintro _ _ ⟨rfl, rfl⟩ -; simp only [jPg, jMb, ll, Nat.reduceAdd, Nat.reduceLT, Nat.zero_add, if_true, if_false, Nat.reduceSub, reduceIte, mapL_cellsR, Nat.lt_irrefl, Nat.not_lt_zero, Nat.zero_lt_succ, Nat.lt_add_one, trR, arR]
          refine jn ?_
          refine js ?_
          refine je ?_
          refine WS.pblock rfl ?_
          refine jq ?_
          refine jg ?_
          refine jP ?_
          refine jo ?_
          iterate 2 refine jP ?_
          refine jo ?_
          refine jDF ?_
          refine jo ?_
          refine je ?_
          refine WS.pcondF rfl rfl ?_
          refine jq ?_
          refine jg ?_
          refine jP ?_
          refine jo ?_
          iterate 2 refine jP ?_
          refine jo ?_
          refine jDT ?_
          refine jo ?_
          refine je ?_
          refine WS.pcondT rfl rfl ?_
          refine jg ?_
          refine jP ?_
          iterate 2 refine jo ?_
          refine je ?_
          refine WS.bend ?_
          refine WS.bend ?_
          refine WS.nil ?_
          exact ⟨r, ⟨hr, hF⟩, by simp only [Tr.ht]; omega, (jSn [0,1,2,3] (by simp [jVb, jOb, jMb, mapL_cellsR, okL_cellsR, trM, arM]) (by simp only [jSl, jOb, jMb, Nat.reduceAdd, Nat.reduceLT, trM, arM] <;> exact jClo))⟩
        · rw [if_neg h2] at hF; omega
  · rintro _ -
    simp only [trM, arM, List.cons_append, List.nil_append]
    refine jq ?_
    refine jg ?_
    refine jo ?_
    refine je ?_
    refine WS.pret rfl ⟨.inr rfl, _, rfl, ?_⟩
    exact ⟨_, rfl, [0,1,2], trM ps fr lv T.id len, .i .i64 4, ⟨rfl, rfl, (by simp [jVb, jOb, jMb, mapL_cellsR, okL_cellsR, trM, arM]), rfl⟩, rfl, trivial, rfl, rfl⟩
theorem change_ok (ps : List Pl) (fr lv len a b c : Int) (T : Tr) (p : Pl) (hT : Rep ps T) (hf : fid a T ≠ 0) (hq : ps[fid a T]? = some p) (hm : ps.length ≤ 600) :
  FM Try.prog 14 [.p (some (2,0)), .agg [.i .i64 a, .i .i64 b, .i .i64 c]] (trM ps fr lv T.id len) (fun v M' => v = .i .i64 0 ∧ M' = trM (ps.set (fid a T) ⟨true, p.next, p.l, p.r, p.h, a, b, c⟩) fr lv T.id len) := by
  refine FM.pbodyV (tb := tb) (fn := Try.f14) rfl rfl ?_
  simp only [argS, Nat.reduceAdd, trM, arM, List.length_cons, List.length_nil, List.cons_append, List.nil_append]
  refine jq ?_
  refine jg ?_
  refine jn ?_
  refine jo ?_
  refine je ?_
  iterate 2 refine jq ?_
  refine jg ?_
  iterate 2 refine jo ?_
  refine jP ?_
  iterate 2 refine jo ?_
  refine je ?_
  refine WS.pblock rfl ?_
  refine WS.ploopI (σ := Tr) (τ := Unit) (fun a => [(0, .p (some (2,0))), (3, .p (some (3,0))), (4, .i .i64 0), (5, .i .u32 a.id)])
    (fun _ => trM ps fr lv T.id len ++ [some ⟨[.i .i64 a, .i .i64 b, .i .i64 c], 31, true⟩]) (fun U => Rep ps U ∧ fid a U = fid a T) (fun a => a.ht)
    (fun _ => []) (fun _ => trM ps fr lv T.id len) (fun _ => False) 0 [0,1,2,3] T rfl ⟨hT, rfl⟩ (jSb (by simp [jVb, jOb, jMb, mapL_cellsR, okL_cellsR, trM, arM]) (by simp only [jSl, jOb, jMb, Nat.reduceAdd, Nat.reduceLT, trM, arM] <;> exact jClo)) rfl ?_ ?_
  · rintro U ⟨hU, hF⟩
    simp only [trM, arM, List.cons_append, List.nil_append]
    cases U with
    | lf => exact absurd hF.symm hf
    | nd id l x y z r =>
      obtain ⟨h0, ⟨nx, hp⟩, hl, hr⟩ := hU
      have G := tget_nd ps fr lv T.id len id _ hp rfl hm
      simp only [id_nd]
      simp only [fid] at hF
      by_cases h1 : a < x
      · rw [if_pos h1] at hF
        iterate 2 refine jq ?_
        refine jg ?_
        refine jo ?_
        refine jNT ?_
        refine je ?_
        refine WS.pcondT rfl rfl ?_
        refine WS.pskip rfl ?_
        refine WS.pblock rfl ?_
        refine jq ?_
        refine jg ?_
        iterate 2 refine jo ?_
        refine jc [0,1,2] G (by simp [jOb, trR, arR]) (by simp [jEb, jOb, jMb, mapL_cellsR, okL_cellsR, trR, arR]) ?_; rintro _ _ ⟨rfl, rfl⟩ -; simp only [jPg, jMb, ll, Nat.reduceAdd, Nat.reduceLT, Nat.zero_add, if_true, if_false, Nat.reduceSub, reduceIte, mapL_cellsR, Nat.lt_irrefl, Nat.not_lt_zero, Nat.zero_lt_succ, Nat.lt_add_one, trR, arR]
        refine jn ?_
        refine js ?_
        refine je ?_
        refine WS.pblock rfl ?_
        refine jq ?_
        refine jg ?_
        refine jP ?_
        refine jo ?_
        iterate 2 refine jP ?_
        refine jo ?_
        refine jDT ?_
        refine jo ?_
        refine je ?_
        refine WS.pcondT rfl rfl ?_
        refine jg ?_
        refine jP ?_
        iterate 2 refine jo ?_
        refine je ?_
        refine WS.bend ?_
        refine WS.bend ?_
        refine WS.nil ?_
        exact ⟨l, ⟨hl, hF⟩, by simp only [Tr.ht]; omega, (jSn [0,1,2,3] (by simp [jVb, jOb, jMb, mapL_cellsR, okL_cellsR, trM, arM]) (by simp only [jSl, jOb, jMb, Nat.reduceAdd, Nat.reduceLT, trM, arM] <;> exact jClo))⟩
      · rw [if_neg h1] at hF
        by_cases h2 : x < a
        · rw [if_pos h2] at hF
          iterate 2 refine jq ?_
          refine jg ?_
          refine jo ?_
          refine jNT ?_
          refine je ?_
          refine WS.pcondT rfl rfl ?_
          refine WS.pskip rfl ?_
          refine WS.pblock rfl ?_
          refine jq ?_
          refine jg ?_
          iterate 2 refine jo ?_
          refine jc [0,1,2] G (by simp [jOb, trR, arR]) (by simp [jEb, jOb, jMb, mapL_cellsR, okL_cellsR, trR, arR]) ?_; rintro _ _ ⟨rfl, rfl⟩ -; simp only [jPg, jMb, ll, Nat.reduceAdd, Nat.reduceLT, Nat.zero_add, if_true, if_false, Nat.reduceSub, reduceIte, mapL_cellsR, Nat.lt_irrefl, Nat.not_lt_zero, Nat.zero_lt_succ, Nat.lt_add_one, trR, arR]
          refine jn ?_
          refine js ?_
          refine je ?_
          refine WS.pblock rfl ?_
          refine jq ?_
          refine jg ?_
          refine jP ?_
          refine jo ?_
          iterate 2 refine jP ?_
          refine jo ?_
          refine jDF ?_
          refine jo ?_
          refine je ?_
          refine WS.pcondF rfl rfl ?_
          refine jq ?_
          refine jg ?_
          refine jP ?_
          refine jo ?_
          iterate 2 refine jP ?_
          refine jo ?_
          refine jDT ?_
          refine jo ?_
          refine je ?_
          refine WS.pcondT rfl rfl ?_
          refine jg ?_
          refine jP ?_
          iterate 2 refine jo ?_
          refine je ?_
          refine WS.bend ?_
          refine WS.bend ?_
          refine WS.nil ?_
          exact ⟨r, ⟨hr, hF⟩, by simp only [Tr.ht]; omega, (jSn [0,1,2,3] (by simp [jVb, jOb, jMb, mapL_cellsR, okL_cellsR, trM, arM]) (by simp only [jSl, jOb, jMb, Nat.reduceAdd, Nat.reduceLT, trM, arM] <;> exact jClo))⟩
        · rw [if_neg h2] at hF
          have P := ar_put_yes ps id fr lv _ l.id r.id (1 + ((max l.ht r.ht : Nat) : Int)) a b c hp rfl hm
          rw [← hF, hp] at hq
          obtain rfl := Option.some.inj hq
          rw [← hF]
          iterate 2 refine jq ?_
          refine jg ?_
          refine jo ?_
          refine jNT ?_
          refine je ?_
          refine WS.pcondT rfl rfl ?_
          refine WS.pskip rfl ?_
          refine WS.pblock rfl ?_
          refine jq ?_
          refine jg ?_
          iterate 2 refine jo ?_
          refine jc [0,1,2] G (by simp [jOb, trR, arR, arM]) (by simp [jEb, jOb, jMb, mapL_cellsR, okL_cellsR, trR, arR, arM]) ?_; rintro _ _ ⟨rfl, rfl⟩ -; simp only [jPg, jMb, ll, Nat.reduceAdd, Nat.reduceLT, Nat.zero_add, if_true, if_false, Nat.reduceSub, reduceIte, mapL_cellsR, Nat.lt_irrefl, Nat.not_lt_zero, Nat.zero_lt_succ, Nat.lt_add_one, trR, arR, arM]
          refine jn ?_
          refine js ?_
          refine je ?_
          refine WS.pblock rfl ?_
          refine jq ?_
          refine jg ?_
          refine jP ?_
          refine jo ?_
          iterate 2 refine jP ?_
          refine jo ?_
          refine jDF ?_
          refine jo ?_
          refine je ?_
          refine WS.pcondF rfl rfl ?_
          refine jq ?_
          refine jg ?_
          refine jP ?_
          refine jo ?_
          iterate 2 refine jP ?_
          refine jo ?_
          refine jDF ?_
          refine jo ?_
          refine je ?_
          refine WS.pcondF rfl rfl ?_
          refine jq ?_
          refine jg ?_
          refine WS.poA (tb := tb) rfl rfl rfl rfl rfl (by simp only [List.drop_zero, List.drop_succ_cons, List.take_succ_cons, List.take_zero, rwPl]; exact rfl) ?_
          refine jP ?_
          refine js ?_
          refine je ?_
          refine jq ?_
          refine WS.pdrawE (tb := tb) [0,1] P (by exact rfl) (by kernel_rfl) rfl (by kernel_rfl) (by kernel_rfl) (by (try simp only [mapL, mapV, ll]) <;> exact rfl) (by simp [okL, okV, trR, arR, arM]; fail_if_success exfalso) rfl (by simp [embP, okL, okV, mapL, mapV, mem_next, mem_get, mem_ro, mapL_cellsR, okL_cellsR, trR, arR, arM]; fail_if_success exfalso) rfl ?_
          iterate 2 refine jp ?_
          refine jd ?_
          refine jr ?_
          refine jp ?_
          refine WD.rA (tb := tb) rfl rfl rfl rfl rfl (by simp only [List.drop_zero, List.drop_succ_cons, List.take_succ_cons, List.take_zero, rwPl]; exact rfl) ?_
          refine WD.ecall (tb := tb) rfl rfl rfl rfl rfl rfl rfl rfl rfl ?_; simp only [jPg, jMb, ll, Nat.reduceAdd, Nat.reduceLT, Nat.zero_add, if_true, if_false, Nat.reduceSub, reduceIte, mapL_cellsR, Nat.lt_irrefl, Nat.not_lt_zero, Nat.zero_lt_succ, Nat.lt_add_one, trR, arR, arM]
          refine jp ?_
          refine WD.fin rfl ?_
          refine WS.pret rfl ?_
          exact ⟨by simp, _, rfl, _, rfl, [0,1,2], trM (ps.set id ⟨true, nx, l.id, r.id, 1 + ((max l.ht r.ht : Nat) : Int), a, b, c⟩) fr lv T.id len, .i .i64 0, ⟨rfl, rfl, (by simp [jVb, jOb, jMb, mapL_cellsR, okL_cellsR, trM, arM, List.length_set]), rfl⟩, rfl, trivial, rfl, rfl⟩
  · rintro _ h
    exact h.elim
end Go.Proofs.Ytpogfelbimcglaa.Am

