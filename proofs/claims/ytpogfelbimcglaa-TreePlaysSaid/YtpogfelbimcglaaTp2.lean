/- Functions of the tree and of the law TreePlays, walked. Conditions: those of each theorem. -/
import Derived.Test.YtpogfelbimcglaaTs0
namespace Go.Proofs.Ytpogfelbimcglaa.Am
open Go.Proofs
set_option maxRecDepth 1000000
set_option maxHeartbeats 4000000
set_option linter.unusedSimpArgs false
set_option linter.unusedVariables false
theorem Rn_eq (a a2 : Int) (b b2 : Int) (c c2 : Int) : eqB tb 100 31 (.agg [.i .i64 a, .i .i64 b, .i .i64 c]) (.agg [.i .i64 a2, .i .i64 b2, .i .i64 c2]) = decide (a = a2 ∧ b = b2 ∧ c = c2) := by
  have h : eqB tb 100 31 (.agg [.i .i64 a, .i .i64 b, .i .i64 c]) (.agg [.i .i64 a2, .i .i64 b2, .i .i64 c2]) = ((a == a2) && ((b == b2) && ((c == c2) && true))) := by kernel_rfl
  rw [h]; simp [Bool.beq_eq_decide_eq]
def roW (L : List Rn) : List (Option Blk) := [some ⟨cellsR rwRn L, 31, false⟩]
/-- The place of a run with that key, -1: none. -/
def atL (k : Int) : List Rn → Nat → Int
  | [], _ => -1
  | x :: l, i => if x.a = k then (i : Int) else atL k l (i + 1)
theorem at_walk (L : List Rn) (q : Bool) (k : Int) (hn : L.length ≤ 600) : FM Try.prog 17 [.sl (some (0,0)) L.length L.length q, .i .i64 k] (roW L) (fun v M' => v = .i .i64 (atL k L 0) ∧ M' = roW L) := by
  refine FM.pbody (tb := tb) (fn := Try.f17) rfl rfl ?_
  simp only [argS, Nat.reduceAdd, roW, List.length_cons, List.length_nil]
  refine jq ?_
  refine jg ?_
  refine jo ?_
  refine je ?_
  iterate 2 refine jq ?_
  refine jg ?_
  refine jo ?_
  refine je ?_
  refine WS.pblock rfl ?_
  refine WS.ploopI (σ := Nat) (τ := Unit) (fun i => [(0, .sl (some (0,0)) L.length L.length q), (1, .i .i64 k), (4, .i .i64 0), (5, .i .i64 i)]) (fun _ => roW L) (fun i => i ≤ L.length ∧ atL k (L.drop i) i = atL k L 0) (fun i => L.length - i)
    (fun _ => []) (fun _ => roW L) (fun _ => atL k L 0 = -1) 0 [0] 0 rfl ⟨Nat.zero_le _, rfl⟩ (jSb (by simp [jVb, jOb, jMb, mapL_cellsR, okL_cellsR, roW]) (by simp only [jSl, jOb, jMb, Nat.reduceAdd, Nat.reduceLT, roW] <;> exact jClo)) rfl ?_ ?_
  · rintro i ⟨hi, hA⟩
    simp only [roW]
    by_cases h : i < L.length
    · obtain ⟨x, hx⟩ : ∃ x, L[i]? = some x := ⟨_, List.getElem?_eq_getElem h⟩
      have e : L.drop i = x :: L.drop (i + 1) := by
        rw [List.drop_eq_getElem_cons h]
        have := List.getElem?_eq_getElem h
        rw [hx] at this
        rw [← Option.some.inj this]
      rw [e] at hA
      simp only [atL] at hA
      by_cases hk : x.a = k
      · rw [if_pos hk] at hA
        iterate 2 refine jq ?_
        refine jg ?_
        iterate 3 refine jo ?_
        refine jDT ?_
        refine je ?_
        refine WS.pcondT rfl rfl ?_
        refine WS.pskip rfl ?_
        refine jq ?_
        refine WS.pblock rfl ?_
        refine jq ?_
        refine jg ?_
        iterate 2 refine jo ?_
        refine jI ?_
        refine jP ?_
        refine WS.po (tb := tb) rfl rfl rfl rfl (step_R rfl (evR_load rfl rfl rfl rfl (cellsR_get0 hx rfl))) ?_
        refine jo ?_
        refine jDT ?_
        refine je ?_
        refine WS.pcondT rfl rfl ?_
        refine jq ?_
        refine jg ?_
        iterate 2 refine jo ?_
        refine je ?_
        refine WS.pret rfl ?_
        exact ⟨by simp, _, rfl, _, rfl, by rw [hA], by simp [roW]⟩
      · rw [if_neg hk] at hA
        iterate 2 refine jq ?_
        refine jg ?_
        iterate 3 refine jo ?_
        refine jDT ?_
        refine je ?_
        refine WS.pcondT rfl rfl ?_
        refine WS.pskip rfl ?_
        refine jq ?_
        refine WS.pblock rfl ?_
        refine jq ?_
        refine jg ?_
        iterate 2 refine jo ?_
        refine jI ?_
        refine jP ?_
        refine WS.po (tb := tb) rfl rfl rfl rfl (step_R rfl (evR_load rfl rfl rfl rfl (cellsR_get0 hx rfl))) ?_
        refine jo ?_
        refine jDF ?_
        refine je ?_
        refine WS.pcondF rfl rfl ?_
        refine WS.pskip rfl ?_
        refine jg ?_
        refine jo ?_
        refine jW ?_
        refine jo ?_
        refine je ?_
        refine WS.nil ?_
        exact ⟨i + 1, ⟨by omega, hA⟩, by omega, (jSn [0] (by simp [jVb, jOb, jMb, mapL_cellsR, okL_cellsR, roW]) (by simp only [jSl, jOb, jMb, Nat.reduceAdd, Nat.reduceLT, roW] <;> exact jClo))⟩
    · obtain rfl : i = L.length := by omega
      rw [List.drop_length] at hA
      iterate 2 refine jq ?_
      refine jg ?_
      iterate 3 refine jo ?_
      refine jDF ?_
      refine je ?_
      refine WS.pcondF rfl rfl ?_
      refine WS.pout rfl rfl ?_
      exact ⟨rfl, (), hA.symm, (jSn [0] (by simp [jVb, jOb, jMb, mapL_cellsR, okL_cellsR, roW]) (by simp only [jSl, jOb, jMb, Nat.reduceAdd, Nat.reduceLT, roW] <;> exact jClo))⟩
  · rintro _ hJ
    simp only [roW]
    refine jq ?_
    refine jg ?_
    refine jo ?_
    refine je ?_
    refine WS.pret rfl ⟨.inr rfl, _, rfl, ?_⟩
    exact ⟨_, rfl, by rw [hJ], rfl⟩
theorem same_no (L : List Rn) (a : Option (Nat × Nat)) (n c : Nat) (q : Bool) (k : Int) (hk : k < 0) (ha : a = none ∨ a = some (0, 0)) : FM Try.prog 33 [.sl a n c q, .i .i64 k, .agg [.i .i64 0, .i .i64 0, .i .i64 0], .b false] [none] (fun v M' => v = .b true ∧ M' = [none]) := by
  refine FM.pbodyV (tb := tb) (fn := Try.f33) rfl rfl ?_
  simp only [argS, Nat.reduceAdd, List.length_cons, List.length_nil]
  refine jq ?_
  refine jg ?_
  refine jn ?_
  refine jo ?_
  refine je ?_
  iterate 2 refine jq ?_
  refine jg ?_
  refine jo ?_
  refine jDT ?_
  refine je ?_
  refine WS.pcondT rfl rfl ?_
  refine jq ?_
  refine jg ?_
  refine jo ?_
  refine jB true ?_
  refine jo ?_
  refine WS.poA (tb := tb) rfl rfl rfl rfl rfl (by simp only [List.drop_zero, List.drop_succ_cons, List.take_succ_cons, List.take_zero, rwPl, rwRn, rwVw]; exact rfl) ?_
  refine WS.poA (tb := tb) rfl rfl rfl rfl rfl (by simp only [vcells, setL, ll, nl, nz, Nat.reduceAdd, Nat.reduceMul, Int.reduceToNat]; exact rfl) ?_
  refine WS.poB (tb := tb) true rfl rfl rfl rfl (step_P (evP_eql rfl rfl rfl (by kernel_rfl) (by kernel_rfl))) (by rw [Rn_eq]; exact d_t (by omega)) ?_
  iterate 2 refine jo ?_
  refine je ?_
  refine WS.pret rfl ⟨.inr rfl, _, rfl, ?_⟩
  exact ⟨_, rfl, [0], [none], .b true, ⟨rfl, rfl, (by simp [jVb, jOb, jMb, mapL_cellsR, okL_cellsR]), rfl⟩, rfl, trivial, rfl, rfl⟩
theorem same_yes (L : List Rn) (q : Bool) (k : Nat) (x : Rn) (hx : L[k]? = some x) (hn : L.length ≤ 600) : FM Try.prog 33 [.sl (some (0,0)) L.length L.length q, .i .i64 k, .agg [.i .i64 x.a, .i .i64 x.b, .i .i64 x.c], .b true] (roW L) (fun v M' => v = .b true ∧ M' = roW L) := by
  have hk := (List.getElem?_eq_some_iff.1 hx).1
  refine FM.pbodyV (tb := tb) (fn := Try.f33) rfl rfl ?_
  simp only [argS, Nat.reduceAdd, roW, List.length_cons, List.length_nil]
  refine jq ?_
  refine jg ?_
  refine jn ?_
  refine jo ?_
  refine je ?_
  iterate 2 refine jq ?_
  refine jg ?_
  refine jo ?_
  refine jB false ?_
  refine je ?_
  refine WS.pcondF rfl rfl ?_
  refine WS.pskip rfl ?_
  refine jq ?_
  refine WS.pdraw (tb := tb) (by kernel_rfl) rfl (by kernel_rfl) (by kernel_rfl) ?_
  iterate 2 refine jp ?_
  refine WD.rA (tb := tb) rfl rfl rfl rfl rfl (by simp only [List.drop_zero, List.drop_succ_cons, List.take_succ_cons, List.take_zero, rwPl, rwRn, rwVw]; exact rfl) ?_
  iterate 2 refine jp ?_
  refine WD.pP (tb := tb) rfl rfl rfl rfl (evP_index rfl rfl rfl rfl rfl rfl (by omega)) (by simp only [Nat.zero_add, Nat.add_zero, Nat.reduceAdd, Nat.reduceMul, Nat.add_assoc, Nat.mul_one]; exact rfl) ?_
  refine WD.rA (tb := tb) rfl rfl rfl rfl (evQ_R rfl (evR_loads rfl rfl rfl rfl rfl (by exact (cellsR_part0 (R := rwRn) hx (by exact Nat.le_of_ble_eq_true rfl))) (by exact rfl))) (by simp only [List.drop_zero, List.drop_succ_cons, List.take_succ_cons, List.take_zero, rwPl, rwRn, rwVw]; exact rfl) ?_
  refine WD.pB (tb := tb) true rfl rfl rfl rfl (evP_eql rfl rfl rfl (by kernel_rfl) (by kernel_rfl)) (by rw [Rn_eq]; exact d_t (by omega)) ?_
  iterate 2 refine jp ?_
  refine WD.fin rfl ?_
  refine WS.pret rfl ⟨.inr rfl, _, rfl, ?_⟩
  exact ⟨_, rfl, [0], roW L, .b true, ⟨rfl, rfl, (by simp [jVb, jOb, jMb, mapL_cellsR, okL_cellsR, roW]), rfl⟩, rfl, trivial, rfl, rfl⟩
theorem at_none (k : Int) : FM Try.prog 17 [.sl none 0 0 false, .i .i64 k] [] (fun v M' => v = .i .i64 (-1) ∧ M' = []) := by
  refine FM.pbody (tb := tb) (fn := Try.f17) rfl rfl ?_
  simp only [argS, Nat.reduceAdd, List.length_cons, List.length_nil]
  refine jq ?_
  refine jg ?_
  refine jo ?_
  refine je ?_
  iterate 2 refine jq ?_
  refine jg ?_
  refine jo ?_
  refine je ?_
  refine WS.pblock rfl ?_
  refine WS.ploopI (σ := Unit) (τ := Unit) (fun _ => [(0, .sl none 0 0 false), (1, .i .i64 k), (4, .i .i64 0), (5, .i .i64 0)]) (fun _ => []) (fun _ => True) (fun _ => 0) (fun _ => []) (fun _ => []) (fun _ => True) 0 [] () rfl trivial (jSb (by simp [jVb, jOb, jMb, mapL_cellsR, okL_cellsR]) (by simp only [jSl, jOb, jMb, Nat.reduceAdd, Nat.reduceLT] <;> exact jClo)) rfl ?_ ?_
  · rintro _ -
    iterate 2 refine jq ?_
    refine jg ?_
    iterate 3 refine jo ?_
    refine jB false ?_
    refine je ?_
    refine WS.pcondF rfl rfl ?_
    refine WS.pout rfl rfl ?_
    exact ⟨rfl, (), trivial, (jSn [] (by simp [jVb, jOb, jMb, mapL_cellsR, okL_cellsR]) (by simp only [jSl, jOb, jMb, Nat.reduceAdd, Nat.reduceLT] <;> exact jClo))⟩
  · rintro _ -
    refine jq ?_
    refine jg ?_
    refine jo ?_
    refine je ?_
    refine WS.pret rfl ⟨.inr rfl, _, rfl, ?_⟩
    exact ⟨_, rfl, rfl, rfl⟩
theorem at_some (k : Int) : FM Try.prog 17 [.sl (some (0,0)) 0 0 false, .i .i64 k] [none] (fun v M' => v = .i .i64 (-1) ∧ M' = [none]) := by
  refine FM.pbody (tb := tb) (fn := Try.f17) rfl rfl ?_
  simp only [argS, Nat.reduceAdd, List.length_cons, List.length_nil]
  refine jq ?_
  refine jg ?_
  refine jo ?_
  refine je ?_
  iterate 2 refine jq ?_
  refine jg ?_
  refine jo ?_
  refine je ?_
  refine WS.pblock rfl ?_
  refine WS.ploopI (σ := Unit) (τ := Unit) (fun _ => [(0, .sl (some (0,0)) 0 0 false), (1, .i .i64 k), (4, .i .i64 0), (5, .i .i64 0)]) (fun _ => [none]) (fun _ => True) (fun _ => 0) (fun _ => []) (fun _ => [none]) (fun _ => True) 0 [0] () rfl trivial (jSb (by simp [jVb, jOb, jMb, mapL_cellsR, okL_cellsR]) (by simp only [jSl, jOb, jMb, Nat.reduceAdd, Nat.reduceLT] <;> exact jClo)) rfl ?_ ?_
  · rintro _ -
    iterate 2 refine jq ?_
    refine jg ?_
    iterate 3 refine jo ?_
    refine jB false ?_
    refine je ?_
    refine WS.pcondF rfl rfl ?_
    refine WS.pout rfl rfl ?_
    exact ⟨rfl, (), trivial, (jSn [0] (by simp [jVb, jOb, jMb, mapL_cellsR, okL_cellsR]) (by simp only [jSl, jOb, jMb, Nat.reduceAdd, Nat.reduceLT] <;> exact jClo))⟩
  · rintro _ -
    refine jq ?_
    refine jg ?_
    refine jo ?_
    refine je ?_
    refine WS.pret rfl ⟨.inr rfl, _, rfl, ?_⟩
    exact ⟨_, rfl, rfl, rfl⟩
/-- A row with one run more, in its place. -/
def insR (r : Rn) : List Rn → List Rn
  | [] => [r]
  | x :: l => if x.a > r.a then r :: x :: l else x :: insR r l
def putF (r : Rn) (o : List Rn × Bool) (x : Rn) : List Rn × Bool := if o.2 = false ∧ x.a > r.a then (o.1 ++ [r] ++ [x], true) else (o.1 ++ [x], o.2)
def putR (r : Rn) (o : List Rn × Bool) : List Rn := if o.2 = true then o.1 else o.1 ++ [r]
theorem putF_done (r : Rn) : ∀ (L o : List Rn), L.foldl (putF r) (o, true) = (o ++ L, true)
  | [], o => by simp
  | x :: L, o => by simp only [List.foldl_cons, putF]; rw [if_neg (by simp), putF_done r L]; simp
theorem putR_eq (r : Rn) : ∀ (L o : List Rn), putR r (L.foldl (putF r) (o, false)) = o ++ insR r L
  | [], o => by simp [putR, insR]
  | x :: L, o => by
    simp only [List.foldl_cons, putF, insR]
    by_cases h : x.a > r.a
    · rw [if_pos ⟨trivial, h⟩, putF_done]; simp [putR, h]
    · rw [if_neg (by simp; omega), putR_eq r L]; simp [h]
theorem putF_len (r : Rn) : ∀ (L : List Rn) (o : List Rn × Bool), (L.foldl (putF r) o).1.length ≤ o.1.length + 2 * L.length
  | [], o => by simp
  | x :: L, o => by
    have := putF_len r L (putF r o x)
    have h2 : (putF r o x).1.length ≤ o.1.length + 2 := by unfold putF; split <;> simp
    simp only [List.foldl_cons, List.length_cons]; omega
end Go.Proofs.Ytpogfelbimcglaa.Am

