/- Functions of the tree and of the law TreePlays, walked. Conditions: those of each theorem. -/
import Derived.Test.YtpogfelbimcglaaTs0
import Derived.Test.YtpogfelbimcglaaTr14v
namespace Go.Proofs.Ytpogfelbimcglaa.Am
open Go.Proofs
set_option maxRecDepth 1000000
set_option maxHeartbeats 4000000
set_option linter.unusedSimpArgs false
set_option linter.unusedVariables false
theorem views_lf {s : TS} (h : s.T = .lf) : FM Try.prog 23 [.p (some (2,0))] (tsR s) (fun v M' => v = .sl none 0 0 false ∧ M' = tsR s) := by
  refine FM.pbodyV (tb := tb) (fn := Try.f23) rfl rfl ?_
  have hn : s.n = 0 := by rw [TS.n, h]; rfl
  simp only [argS, Nat.reduceAdd, tsR, trR, arR, List.length_cons, List.length_nil, List.cons_append, List.nil_append, h, id_lf, hn]
  refine jq ?_
  refine jg ?_
  refine jo ?_
  refine je ?_
  refine jq ?_
  refine jg ?_
  refine jn ?_
  refine je ?_
  refine jq ?_
  refine jg ?_
  iterate 3 refine jo ?_
  refine jP ?_
  iterate 2 refine jo ?_
  refine jc [0,1,2,3] walkLfVw (by simp [jOb]) (by simp [jEb, jOb, jMb, mapL_cellsR, okL_cellsR]) ?_; rintro _ _ ⟨rfl, rfl⟩ -; simp only [jPg, jMb, ll, Nat.reduceAdd, Nat.reduceLT, Nat.zero_add, if_true, if_false, Nat.reduceSub, reduceIte, mapL_cellsR, Nat.lt_irrefl, Nat.not_lt_zero, Nat.zero_lt_succ, Nat.lt_add_one]
  refine je ?_
  refine jq ?_
  refine jg ?_
  iterate 2 refine jo ?_
  refine je ?_
  refine WS.pret rfl ⟨.inr rfl, _, rfl, ?_⟩
  exact ⟨_, rfl, [0,1,2], tsR s, .sl none 0 0 false, ⟨rfl, rfl, (by simp [jVb, jOb, jMb, mapL_cellsR, okL_cellsR, tsR, trR, arR, h, id_lf, hn]), rfl⟩, rfl, trivial, rfl, by simp [tsR, trR, arR, h, id_lf, hn]⟩
theorem views_nd {n : Nat} {s : TS} (h : TOk n s) (hm : n ≤ 512) (hne : s.T ≠ .lf) : FM Try.prog 23 [.p (some (2,0))] (tsR s) (fun v M' => v = .sl (some (3,0)) s.n s.n true ∧ M' = tsR s ++ [some ⟨cellsR rwVw (viewsT s.T), 54, true⟩]) := by
  have hl := h.len
  have hle := h.le
  have W := walkVw0 s.ps s.fr s.n s.T.id s.n (by omega) s.T h.rep hne (by simp only [TS.n] at hle; omega)
  refine FM.pbodyV (tb := tb) (fn := Try.f23) rfl rfl ?_
  simp only [argS, Nat.reduceAdd, tsR, trR, arR, List.length_cons, List.length_nil, List.cons_append, List.nil_append]
  refine jq ?_
  refine jg ?_
  refine jo ?_
  refine je ?_
  refine jq ?_
  refine jg ?_
  refine jn ?_
  refine je ?_
  refine jq ?_
  refine jg ?_
  iterate 3 refine jo ?_
  refine jP ?_
  iterate 2 refine jo ?_
  refine jc [0,1,2,3] W (by simp [jOb, trR, arR]) (by simp [jEb, jOb, jMb, mapL_cellsR, okL_cellsR, trR, arR]) ?_; rintro _ _ ⟨rfl, rfl⟩ -; simp only [jPg, jMb, ll, Nat.reduceAdd, Nat.reduceLT, Nat.zero_add, if_true, if_false, Nat.reduceSub, reduceIte, mapL_cellsR, Nat.lt_irrefl, Nat.not_lt_zero, Nat.zero_lt_succ, Nat.lt_add_one, trR, arR]
  refine je ?_
  refine jq ?_
  refine jg ?_
  iterate 2 refine jo ?_
  refine je ?_
  refine WS.pret rfl ⟨.inr rfl, _, rfl, ?_⟩
  exact ⟨_, rfl, [0,1,2,4], tsR s ++ [some ⟨cellsR rwVw (viewsT s.T), 54, true⟩], .sl (some (3,0)) s.n s.n true, ⟨rfl, rfl, (by simp [jVb, jOb, jMb, mapL_cellsR, okL_cellsR, tsR, trR, arR]), rfl⟩, rfl, Nat.lt_succ_self _, rfl, rfl⟩
end Go.Proofs.Ytpogfelbimcglaa.Am

