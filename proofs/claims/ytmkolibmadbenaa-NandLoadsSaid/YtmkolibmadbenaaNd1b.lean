/- Functions of the flash, walked. Conditions: those of each theorem. -/
import Derived.Test.YtmkolibmadbenaaNd1
namespace Go.Proofs.Ytmkolibmadbenaa.Am
open Go.Proofs
set_option maxRecDepth 1000000
set_option maxHeartbeats 4000000
set_option linter.unusedSimpArgs false
set_option linter.unusedVariables false
theorem next_yes (x : NS) (b : Nat) (y : Bk) (hy : x.bk[b]? = some y) (hm : x.bk.length ≤ 1000000) : FM Try.prog 24 [.p (some (2,0)), .i .i64 b] (ndR x) (fun v M' => v = .tup [.i .i64 y.next, .i .i64 0] ∧ M' = ndR x) := by
  have hb := (List.getElem?_eq_some_iff.1 hy).1
  refine FM.pbody (tb := tb) (fn := Try.f24) rfl rfl ?_
  simp only [argS, Nat.reduceAdd, ndR, List.length_cons, List.length_nil]
  refine jq ?_
  refine jg ?_
  iterate 2 refine jo ?_
  refine je ?_
  iterate 2 refine jq ?_
  refine jg ?_
  refine jo ?_
  refine jB false ?_
  iterate 4 refine jo ?_
  refine jP ?_
  iterate 2 refine jo ?_
  refine jDF ?_
  refine jo ?_
  refine je ?_
  refine WS.pcondF rfl rfl ?_
  refine WS.pskip rfl ?_
  refine jq ?_
  refine jg ?_
  iterate 2 refine jo ?_
  refine jP ?_
  iterate 2 refine jo ?_
  refine jI ?_
  refine jP ?_
  refine WS.po (tb := tb) rfl rfl rfl rfl (step_R rfl (evR_load rfl rfl rfl rfl (cellsR_get0 hy rfl))) ?_
  iterate 2 refine jo ?_
  refine je ?_
  refine WS.pret rfl ⟨.inr rfl, _, rfl, ?_⟩
  exact ⟨_, rfl, rfl, rfl⟩
theorem next_no (x : NS) (z : Int) (h : z < 0 ∨ x.bk.length ≤ z) (hm : x.bk.length ≤ 1000000) : FM Try.prog 24 [.p (some (2,0)), .i .i64 z] (ndR x) (fun v M' => v = .tup [.i .i64 0, .i .i64 1] ∧ M' = ndR x) := by
  refine FM.pbody (tb := tb) (fn := Try.f24) rfl rfl ?_
  simp only [argS, Nat.reduceAdd, ndR, List.length_cons, List.length_nil]
  by_cases h0 : z < 0
  · refine WS.pseq rfl ?_
    refine jg ?_
    iterate 2 refine jo ?_
    refine je ?_
    iterate 2 refine jq ?_
    refine jg ?_
    refine jo ?_
    refine jDT ?_
    refine jo ?_
    iterate 7 refine jN ?_
    refine jo ?_
    refine je ?_
    refine WS.pcondT rfl rfl ?_
    refine jq ?_
    refine jg ?_
    iterate 2 refine jo ?_
    refine je ?_
    refine WS.pret rfl ⟨.inr rfl, _, rfl, ?_⟩
    exact ⟨_, rfl, rfl, rfl⟩
  · refine WS.pseq rfl ?_
    refine jg ?_
    iterate 2 refine jo ?_
    refine je ?_
    iterate 2 refine jq ?_
    refine jg ?_
    refine jo ?_
    refine jDF ?_
    iterate 4 refine jo ?_
    refine jP ?_
    iterate 2 refine jo ?_
    refine jDT ?_
    refine jo ?_
    refine je ?_
    refine WS.pcondT rfl rfl ?_
    refine jq ?_
    refine jg ?_
    iterate 2 refine jo ?_
    refine je ?_
    refine WS.pret rfl ⟨.inr rfl, _, rfl, ?_⟩
    exact ⟨_, rfl, rfl, rfl⟩
theorem badq_yes (x : NS) (b : Nat) (y : Bk) (hy : x.bk[b]? = some y) (hm : x.bk.length ≤ 1000000) : FM Try.prog 31 [.p (some (2,0)), .i .i64 b] (ndR x) (fun v M' => v = .tup [.b y.bad, .i .i64 0] ∧ M' = ndR x) := by
  have hb := (List.getElem?_eq_some_iff.1 hy).1
  refine FM.pbody (tb := tb) (fn := Try.f31) rfl rfl ?_
  simp only [argS, Nat.reduceAdd, ndR, List.length_cons, List.length_nil]
  refine jq ?_
  refine jg ?_
  iterate 2 refine jo ?_
  refine je ?_
  iterate 2 refine jq ?_
  refine jg ?_
  refine jo ?_
  refine jB false ?_
  iterate 4 refine jo ?_
  refine jP ?_
  iterate 2 refine jo ?_
  refine jDF ?_
  refine jo ?_
  refine je ?_
  refine WS.pcondF rfl rfl ?_
  refine WS.pskip rfl ?_
  refine jq ?_
  refine jg ?_
  iterate 2 refine jo ?_
  refine jP ?_
  iterate 2 refine jo ?_
  refine jI ?_
  refine jP ?_
  refine WS.po (tb := tb) rfl rfl rfl rfl (step_R rfl (evR_load rfl rfl rfl rfl (cellsR_get hy rfl))) ?_
  iterate 2 refine jo ?_
  refine je ?_
  refine WS.pret rfl ⟨.inr rfl, _, rfl, ?_⟩
  exact ⟨_, rfl, rfl, rfl⟩
theorem badq_no (x : NS) (z : Int) (h : z < 0 ∨ x.bk.length ≤ z) (hm : x.bk.length ≤ 1000000) : FM Try.prog 31 [.p (some (2,0)), .i .i64 z] (ndR x) (fun v M' => v = .tup [.b false, .i .i64 1] ∧ M' = ndR x) := by
  refine FM.pbody (tb := tb) (fn := Try.f31) rfl rfl ?_
  simp only [argS, Nat.reduceAdd, ndR, List.length_cons, List.length_nil]
  by_cases h0 : z < 0
  · refine WS.pseq rfl ?_
    refine jg ?_
    iterate 2 refine jo ?_
    refine je ?_
    iterate 2 refine jq ?_
    refine jg ?_
    refine jo ?_
    refine jDT ?_
    refine jo ?_
    iterate 7 refine jN ?_
    refine jo ?_
    refine je ?_
    refine WS.pcondT rfl rfl ?_
    refine jq ?_
    refine jg ?_
    iterate 2 refine jo ?_
    refine je ?_
    refine WS.pret rfl ⟨.inr rfl, _, rfl, ?_⟩
    exact ⟨_, rfl, rfl, rfl⟩
  · refine WS.pseq rfl ?_
    refine jg ?_
    iterate 2 refine jo ?_
    refine je ?_
    iterate 2 refine jq ?_
    refine jg ?_
    refine jo ?_
    refine jDF ?_
    iterate 4 refine jo ?_
    refine jP ?_
    iterate 2 refine jo ?_
    refine jDT ?_
    refine jo ?_
    refine je ?_
    refine WS.pcondT rfl rfl ?_
    refine jq ?_
    refine jg ?_
    iterate 2 refine jo ?_
    refine je ?_
    refine WS.pret rfl ⟨.inr rfl, _, rfl, ?_⟩
    exact ⟨_, rfl, rfl, rfl⟩
theorem wear_yes (x : NS) (b : Nat) (y : Bk) (hy : x.bk[b]? = some y) (hm : x.bk.length ≤ 1000000) : FM Try.prog 25 [.p (some (2,0)), .i .i64 b] (ndR x) (fun v M' => v = .tup [.i .i64 y.wear, .i .i64 0] ∧ M' = ndR x) := by
  have hb := (List.getElem?_eq_some_iff.1 hy).1
  refine FM.pbody (tb := tb) (fn := Try.f25) rfl rfl ?_
  simp only [argS, Nat.reduceAdd, ndR, List.length_cons, List.length_nil]
  refine jq ?_
  refine jg ?_
  iterate 2 refine jo ?_
  refine je ?_
  iterate 2 refine jq ?_
  refine jg ?_
  refine jo ?_
  refine jB false ?_
  iterate 4 refine jo ?_
  refine jP ?_
  iterate 2 refine jo ?_
  refine jDF ?_
  refine jo ?_
  refine je ?_
  refine WS.pcondF rfl rfl ?_
  refine WS.pskip rfl ?_
  refine jq ?_
  refine jg ?_
  iterate 2 refine jo ?_
  refine jP ?_
  iterate 2 refine jo ?_
  refine jI ?_
  refine jP ?_
  refine WS.po (tb := tb) rfl rfl rfl rfl (step_R rfl (evR_load rfl rfl rfl rfl (cellsR_get hy rfl))) ?_
  iterate 2 refine jo ?_
  refine je ?_
  refine WS.pret rfl ⟨.inr rfl, _, rfl, ?_⟩
  exact ⟨_, rfl, rfl, rfl⟩
theorem wear_no (x : NS) (z : Int) (h : z < 0 ∨ x.bk.length ≤ z) (hm : x.bk.length ≤ 1000000) : FM Try.prog 25 [.p (some (2,0)), .i .i64 z] (ndR x) (fun v M' => v = .tup [.i .i64 0, .i .i64 1] ∧ M' = ndR x) := by
  refine FM.pbody (tb := tb) (fn := Try.f25) rfl rfl ?_
  simp only [argS, Nat.reduceAdd, ndR, List.length_cons, List.length_nil]
  by_cases h0 : z < 0
  · refine WS.pseq rfl ?_
    refine jg ?_
    iterate 2 refine jo ?_
    refine je ?_
    iterate 2 refine jq ?_
    refine jg ?_
    refine jo ?_
    refine jDT ?_
    refine jo ?_
    iterate 7 refine jN ?_
    refine jo ?_
    refine je ?_
    refine WS.pcondT rfl rfl ?_
    refine jq ?_
    refine jg ?_
    iterate 2 refine jo ?_
    refine je ?_
    refine WS.pret rfl ⟨.inr rfl, _, rfl, ?_⟩
    exact ⟨_, rfl, rfl, rfl⟩
  · refine WS.pseq rfl ?_
    refine jg ?_
    iterate 2 refine jo ?_
    refine je ?_
    iterate 2 refine jq ?_
    refine jg ?_
    refine jo ?_
    refine jDF ?_
    iterate 4 refine jo ?_
    refine jP ?_
    iterate 2 refine jo ?_
    refine jDT ?_
    refine jo ?_
    refine je ?_
    refine WS.pcondT rfl rfl ?_
    refine jq ?_
    refine jg ?_
    iterate 2 refine jo ?_
    refine je ?_
    refine WS.pret rfl ⟨.inr rfl, _, rfl, ?_⟩
    exact ⟨_, rfl, rfl, rfl⟩
end Go.Proofs.Ytmkolibmadbenaa.Am

