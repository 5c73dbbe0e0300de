/- Functions of the tree and of the law TreePlays, walked. Conditions: those of each theorem. -/
import Derived.Test.YtpogfelbimcglaaTp3
import Derived.Test.YtpogfelbimcglaaTq0
namespace Go.Proofs.Ytpogfelbimcglaa.Am
open Go.Proofs
set_option maxRecDepth 1000000
set_option maxHeartbeats 4000000
set_option linter.unusedSimpArgs false
set_option linter.unusedVariables false
/-- The place of an answer in a row. -/
def Pos (L : List Rn) (o : Option Rn) (k : Int) : Prop := (k = -1 ∧ o = none) ∨ ∃ (j : Nat) (x : Rn), k = j ∧ L[j]? = some x ∧ o = some x
theorem at_pos (k : Int) : ∀ (L : List Rn) (M : List Rn) (i : Nat), M.drop i = L → Pos M (getRn k L) (atL k L i)
  | [], M, i, _ => .inl ⟨rfl, rfl⟩
  | x :: L, M, i, h => by
    have hx : M[i]? = some x := by
      have := congrArg (fun l => l[0]?) h
      simpa using this
    simp only [atL, getRn, List.find?_cons]
    by_cases e : x.a = k
    · rw [if_pos e, show (x.a == k) = true by simpa using e]
      exact .inr ⟨i, x, rfl, hx, rfl⟩
    · rw [if_neg e, show (x.a == k) = false by simpa using e]
      exact at_pos k L M (i + 1) (by rw [← List.drop_drop, h]; rfl)
theorem floorR_take {L : List Rn} {i : Nat} {x : Rn} (k : Int) (hx : L[i]? = some x) : floorR k (L.take (i + 1)) none = if x.a ≤ k then some x else floorR k (L.take i) none := by
  rw [List.take_add_one, hx]; simp [floorR]
theorem ceilR_take {L : List Rn} {i : Nat} {x : Rn} (k : Int) (hx : L[i]? = some x) : ceilR k (L.take (i + 1)) = (ceilR k (L.take i)).or (if x.a ≥ k then some x else none) := by
  rw [List.take_add_one, hx]
  simp only [ceilR, Option.toList_some, List.find?_append]
  congr 1
  by_cases h : x.a ≥ k
  · simp [h]
  · simp [h]
theorem same_any (L : List Rn) (q : Bool) (k : Int) (o : Option Rn) (hp : Pos L o k) (hn : L.length ≤ 600) : FM Try.prog 33 [.sl (some (0,0)) L.length L.length q, .i .i64 k, .agg [.i .i64 (rA o), .i .i64 (rB o), .i .i64 (rC o)], .b o.isSome] (roW L) (fun v M' => v = .b true ∧ M' = roW L) := by
  rcases hp with ⟨e1, e2⟩ | ⟨j, x, e1, hx, e2⟩
  · subst e1; subst e2
    simp only [rA, rB, rC, Option.isSome_none]
    refine FM.pbodyV (tb := tb) (fn := Try.f33) rfl rfl ?_
    simp only [argS, Nat.reduceAdd, roW, List.length_cons, List.length_nil]
    refine jq ?_
    refine jg ?_
    refine jn ?_
    refine jo ?_
    refine je ?_
    iterate 2 refine jq ?_
    refine jg ?_
    refine jo ?_
    refine jB true ?_
    refine je ?_
    refine WS.pcondT rfl rfl ?_
    refine jq ?_
    refine jg ?_
    refine jo ?_
    refine jB true ?_
    refine jo ?_
    refine WS.poA (tb := tb) rfl rfl rfl rfl rfl (by simp only [List.drop_zero, List.drop_succ_cons, List.take_succ_cons, List.take_zero, rwPl, rwRn, rwVw]; exact rfl) ?_
    refine WS.poA (tb := tb) rfl rfl rfl rfl rfl (by simp only [vcells, setL, ll, nl, nz, Nat.reduceAdd, Nat.reduceMul, Int.reduceToNat]; exact rfl) ?_
    refine WS.poB (tb := tb) true rfl rfl rfl rfl (step_P (evP_eql rfl rfl rfl (by kernel_rfl) (by kernel_rfl))) (by rw [Rn_eq]; exact d_t (by omega)) ?_
    iterate 2 refine jo ?_
    refine je ?_
    refine WS.pret rfl ⟨.inr rfl, _, rfl, ?_⟩
    exact ⟨_, rfl, [0], roW L, .b true, ⟨rfl, rfl, (by simp [jVb, jOb, jMb, mapL_cellsR, okL_cellsR, roW]), rfl⟩, rfl, trivial, rfl, rfl⟩
  · subst e1; subst e2
    exact same_yes L q j x hx hn
def asM (s : TS) (L : List Rn) : List (Option Blk) := tsR s ++ [some ⟨cellsR rwRn L, 31, false⟩]
def asN (s : TS) : List (Option Blk) := tsR s ++ [none]
structure AskI (L : List Rn) (k : Int) (i : Nat) (f g : Int) : Prop where
  le : i ≤ L.length
  f : Pos L (floorR k (L.take i) none) f
  g : Pos L (ceilR k (L.take i)) g
theorem asked_walk {n : Nat} {s : TS} (q : Bool) (k : Int) (h : TOk n s) (hm : n ≤ 60) (hne : 0 < s.n) : FM Try.prog 19 [.p (some (2,0)), .sl (some (3,0)) s.n s.n q, .i .i64 k] (asM s (runsT s.T)) (fun v M' => v = .b true ∧ M' = asM s (runsT s.T)) := by
  have hl := h.len
  have hle := h.le
  have hrl : (runsT s.T).length = s.n := runsT_len s.T
  have F1 := findR_walk k h (by omega) _ rfl
  have F2 := floorR_walk k h (by omega) _ rfl
  have F3 := ceilR_walk k h (by omega) _ rfl
  generalize hL : runsT s.T = L at *
  have A := at_walk L q k (by omega)
  rw [hrl] at A
  have P1 := at_pos k L L 0 rfl
  have S1 := same_any L q _ _ P1 (by omega)
  rw [hrl] at S1
  have hF0 : Pos L (floorR k (L.take 0) none) (-1) := .inl ⟨rfl, rfl⟩
  have hG0 : Pos L (ceilR k (L.take 0)) (-1) := .inl ⟨rfl, rfl⟩
  refine FM.pbodyV (tb := tb) (fn := Try.f19) rfl rfl ?_
  simp only [argS, Nat.reduceAdd, asM, tsR, trR, arR, List.length_cons, List.length_nil, List.cons_append, List.nil_append]
  refine jq ?_
  refine jg ?_
  refine jo ?_
  refine je ?_
  refine jq ?_
  refine jg ?_
  iterate 2 refine jo ?_
  refine jc [0,1,2] F1 (by simp [jOb, tsR, trR, arR]) (by simp [jEb, jOb, jMb, mapL_cellsR, okL_cellsR, tsR, trR, arR]) ?_; rintro _ _ ⟨rfl, rfl⟩ -; simp only [jPg, jMb, ll, Nat.reduceAdd, Nat.reduceLT, Nat.zero_add, if_true, if_false, Nat.reduceSub, reduceIte, mapL_cellsR, Nat.lt_irrefl, Nat.not_lt_zero, Nat.zero_lt_succ, Nat.lt_add_one, tsR, trR, arR]
  iterate 3 refine jo ?_
  refine jn ?_
  refine js ?_
  refine jo ?_
  refine je ?_
  refine jq ?_
  refine jg ?_
  iterate 2 refine jo ?_
  refine jc [0,1,2] F2 (by simp [jOb, tsR, trR, arR]) (by simp [jEb, jOb, jMb, mapL_cellsR, okL_cellsR, tsR, trR, arR]) ?_; rintro _ _ ⟨rfl, rfl⟩ -; simp only [jPg, jMb, ll, Nat.reduceAdd, Nat.reduceLT, Nat.zero_add, if_true, if_false, Nat.reduceSub, reduceIte, mapL_cellsR, Nat.lt_irrefl, Nat.not_lt_zero, Nat.zero_lt_succ, Nat.lt_add_one, tsR, trR, arR]
  iterate 3 refine jo ?_
  refine jn ?_
  refine js ?_
  refine jo ?_
  refine je ?_
  refine jq ?_
  refine jg ?_
  iterate 2 refine jo ?_
  refine jc [0,1,2] F3 (by simp [jOb, tsR, trR, arR]) (by simp [jEb, jOb, jMb, mapL_cellsR, okL_cellsR, tsR, trR, arR]) ?_; rintro _ _ ⟨rfl, rfl⟩ -; simp only [jPg, jMb, ll, Nat.reduceAdd, Nat.reduceLT, Nat.zero_add, if_true, if_false, Nat.reduceSub, reduceIte, mapL_cellsR, Nat.lt_irrefl, Nat.not_lt_zero, Nat.zero_lt_succ, Nat.lt_add_one, tsR, trR, arR]
  iterate 3 refine jo ?_
  refine jn ?_
  refine js ?_
  refine jo ?_
  refine je ?_
  refine jq ?_
  refine jg ?_
  refine jo ?_
  refine je ?_
  refine jq ?_
  refine jg ?_
  refine jo ?_
  refine je ?_
  iterate 2 refine jq ?_
  refine jg ?_
  refine jo ?_
  refine je ?_
  refine WS.pblock rfl ?_
  obtain ⟨o1, ho1⟩ : ∃ o, getRn k L = o := ⟨_, rfl⟩
  obtain ⟨o2, ho2⟩ : ∃ o, floorR k L none = o := ⟨_, rfl⟩
  obtain ⟨o3, ho3⟩ : ∃ o, ceilR k L = o := ⟨_, rfl⟩
  rw [ho1] at S1
  simp only [ho1, ho2, ho3]
  obtain ⟨XB, hXB⟩ : ∃ X : List (Option Blk), X = [some ⟨[.i .i64 (rA o1), .i .i64 (rB o1), .i .i64 (rC o1)], 31, true⟩, some ⟨[.i .i64 (rA o2), .i .i64 (rB o2), .i .i64 (rC o2)], 31, true⟩, some ⟨[.i .i64 (rA o3), .i .i64 (rB o3), .i .i64 (rC o3)], 31, true⟩] := ⟨_, rfl⟩
  refine WS.ploopI (σ := Nat × Int × Int) (τ := Int × Int) (fun a => [(0, .p (some (2,0))), (1, .sl (some (3,0)) s.n s.n q), (2, .i .i64 k), (7, .p (some (4,0))), (8, .b o1.isSome), (9, .p (some (5,0))), (10, .b o2.isSome), (11, .p (some (6,0))), (12, .b o3.isSome), (13, .i .i64 a.2.1), (14, .i .i64 a.2.2), (15, .i .i64 a.1)])
    (fun _ => asM s L ++ XB) (fun a => AskI L k a.1 a.2.1 a.2.2) (fun a => s.n - a.1)
    (fun a => [(1, .sl (some (3,0)) s.n s.n q), (2, .i .i64 k), (7, .p (some (4,0))), (8, .b o1.isSome), (9, .p (some (5,0))), (10, .b o2.isSome), (11, .p (some (6,0))), (12, .b o3.isSome), (13, .i .i64 a.1), (14, .i .i64 a.2)]) (fun _ => asM s L ++ XB) (fun a => Pos L o2 a.1 ∧ Pos L o3 a.2) 0 [0,1,2,3,4,5,6] (0, -1, -1) rfl ⟨Nat.zero_le _, hF0, hG0⟩ (by subst hXB; exact (jSb (by simp [jVb, jOb, jMb, mapL_cellsR, okL_cellsR, asM, tsR, trR, arR]) (by simp only [jSl, jOb, jMb, Nat.reduceAdd, Nat.reduceLT, asM, tsR, trR, arR] <;> exact jClo))) rfl ?_ ?_
  · rintro ⟨i, f, g⟩ H
    subst hXB
    obtain ⟨hi, hf, hg⟩ := H
    dsimp only at hi hf hg
    simp only [asM, tsR, trR, arR, List.cons_append, List.nil_append]
    by_cases hlt : i < s.n
    · obtain ⟨x, hx⟩ : ∃ x, L[i]? = some x := ⟨_, List.getElem?_eq_getElem (by omega)⟩
      have eF := floorR_take k hx
      have eG := ceilR_take k hx
      by_cases h1 : x.a ≤ k
      · rw [if_pos h1] at eF
        have hf' : Pos L (floorR k (L.take (i + 1)) none) (i : Int) := by rw [eF]; exact .inr ⟨i, x, rfl, hx, rfl⟩
        by_cases h2 : x.a ≥ k
        · rw [if_pos h2] at eG
          rcases hg with ⟨g1, g2⟩ | ⟨j, y, g1, gy, g2⟩
          · have hg' : Pos L (ceilR k (L.take (i + 1))) (i : Int) := by rw [eG, g2]; exact .inr ⟨i, x, rfl, hx, rfl⟩
            subst g1
            iterate 2 refine jq ?_
            refine jg ?_
            iterate 3 refine jo ?_
            refine jDT ?_
            refine je ?_
            refine WS.pcondT rfl rfl ?_
            refine WS.pskip rfl ?_
            refine jq ?_
            refine WS.pblock rfl ?_
            iterate 2 refine jq ?_
            refine jg ?_
            iterate 2 refine jo ?_
            refine jI ?_
            refine jP ?_
            refine WS.po (tb := tb) rfl rfl rfl rfl (step_R rfl (evR_load rfl rfl rfl rfl (cellsR_get0 hx rfl))) ?_
            refine jo ?_
            refine jDT ?_
            refine je ?_
            refine WS.pcondT rfl rfl ?_
            refine jg ?_
            iterate 2 refine jo ?_
            refine je ?_
            refine jq ?_
            refine jg ?_
            iterate 2 refine jo ?_
            refine jI ?_
            refine jP ?_
            refine WS.po (tb := tb) rfl rfl rfl rfl (step_R rfl (evR_load rfl rfl rfl rfl (cellsR_get0 hx rfl))) ?_
            refine jo ?_
            refine jDT ?_
            iterate 2 refine jo ?_
            refine jB true ?_
            refine jo ?_
            refine je ?_
            refine WS.pcondT rfl rfl ?_
            refine jg ?_
            iterate 2 refine jo ?_
            refine je ?_
            refine jg ?_
            refine jo ?_
            refine jW ?_
            refine jo ?_
            refine je ?_
            refine WS.nil ?_
            exact ⟨(i + 1, i, i), ⟨by simp only; omega, hf', hg'⟩, by simp only; omega, (jSn [0,1,2,3,4,5,6] (by simp [jVb, jOb, jMb, mapL_cellsR, okL_cellsR, asM, tsR, trR, arR]) (by simp only [jSl, jOb, jMb, Nat.reduceAdd, Nat.reduceLT, asM, tsR, trR, arR] <;> exact jClo))⟩
          · have hg' : Pos L (ceilR k (L.take (i + 1))) (j : Int) := by rw [eG, g2]; exact .inr ⟨j, y, rfl, gy, rfl⟩
            subst g1
            iterate 2 refine jq ?_
            refine jg ?_
            iterate 3 refine jo ?_
            refine jDT ?_
            refine je ?_
            refine WS.pcondT rfl rfl ?_
            refine WS.pskip rfl ?_
            refine jq ?_
            refine WS.pblock rfl ?_
            iterate 2 refine jq ?_
            refine jg ?_
            iterate 2 refine jo ?_
            refine jI ?_
            refine jP ?_
            refine WS.po (tb := tb) rfl rfl rfl rfl (step_R rfl (evR_load rfl rfl rfl rfl (cellsR_get0 hx rfl))) ?_
            refine jo ?_
            refine jDT ?_
            refine je ?_
            refine WS.pcondT rfl rfl ?_
            refine jg ?_
            iterate 2 refine jo ?_
            refine je ?_
            refine jq ?_
            refine jg ?_
            iterate 2 refine jo ?_
            refine jI ?_
            refine jP ?_
            refine WS.po (tb := tb) rfl rfl rfl rfl (step_R rfl (evR_load rfl rfl rfl rfl (cellsR_get0 hx rfl))) ?_
            refine jo ?_
            refine jDT ?_
            iterate 2 refine jo ?_
            refine jB false ?_
            refine jo ?_
            refine je ?_
            refine WS.pcondF rfl rfl ?_
            refine WS.pskip rfl ?_
            refine jg ?_
            refine jo ?_
            refine jW ?_
            refine jo ?_
            refine je ?_
            refine WS.nil ?_
            exact ⟨(i + 1, i, j), ⟨by simp only; omega, hf', hg'⟩, by simp only; omega, (jSn [0,1,2,3,4,5,6] (by simp [jVb, jOb, jMb, mapL_cellsR, okL_cellsR, asM, tsR, trR, arR]) (by simp only [jSl, jOb, jMb, Nat.reduceAdd, Nat.reduceLT, asM, tsR, trR, arR] <;> exact jClo))⟩
        · rw [if_neg h2, Option.or_none] at eG
          rw [← eG] at hg
          iterate 2 refine jq ?_
          refine jg ?_
          iterate 3 refine jo ?_
          refine jDT ?_
          refine je ?_
          refine WS.pcondT rfl rfl ?_
          refine WS.pskip rfl ?_
          refine jq ?_
          refine WS.pblock rfl ?_
          iterate 2 refine jq ?_
          refine jg ?_
          iterate 2 refine jo ?_
          refine jI ?_
          refine jP ?_
          refine WS.po (tb := tb) rfl rfl rfl rfl (step_R rfl (evR_load rfl rfl rfl rfl (cellsR_get0 hx rfl))) ?_
          refine jo ?_
          refine jDT ?_
          refine je ?_
          refine WS.pcondT rfl rfl ?_
          refine jg ?_
          iterate 2 refine jo ?_
          refine je ?_
          refine jq ?_
          refine jg ?_
          iterate 2 refine jo ?_
          refine jI ?_
          refine jP ?_
          refine WS.po (tb := tb) rfl rfl rfl rfl (step_R rfl (evR_load rfl rfl rfl rfl (cellsR_get0 hx rfl))) ?_
          refine jo ?_
          refine jDF ?_
          refine jo ?_
          iterate 2 refine jN ?_
          refine jo ?_
          refine je ?_
          refine WS.pcondF rfl rfl ?_
          refine WS.pskip rfl ?_
          refine jg ?_
          refine jo ?_
          refine jW ?_
          refine jo ?_
          refine je ?_
          refine WS.nil ?_
          exact ⟨(i + 1, i, g), ⟨by simp only; omega, hf', hg⟩, by simp only; omega, (jSn [0,1,2,3,4,5,6] (by simp [jVb, jOb, jMb, mapL_cellsR, okL_cellsR, asM, tsR, trR, arR]) (by simp only [jSl, jOb, jMb, Nat.reduceAdd, Nat.reduceLT, asM, tsR, trR, arR] <;> exact jClo))⟩
      · rw [if_neg h1] at eF
        have h2 : x.a ≥ k := by omega
        rw [if_pos h2] at eG
        rw [← eF] at hf
        rcases hg with ⟨g1, g2⟩ | ⟨j, y, g1, gy, g2⟩
        · have hg' : Pos L (ceilR k (L.take (i + 1))) (i : Int) := by rw [eG, g2]; exact .inr ⟨i, x, rfl, hx, rfl⟩
          subst g1
          iterate 2 refine jq ?_
          refine jg ?_
          iterate 3 refine jo ?_
          refine jDT ?_
          refine je ?_
          refine WS.pcondT rfl rfl ?_
          refine WS.pskip rfl ?_
          refine jq ?_
          refine WS.pblock rfl ?_
          iterate 2 refine jq ?_
          refine jg ?_
          iterate 2 refine jo ?_
          refine jI ?_
          refine jP ?_
          refine WS.po (tb := tb) rfl rfl rfl rfl (step_R rfl (evR_load rfl rfl rfl rfl (cellsR_get0 hx rfl))) ?_
          refine jo ?_
          refine jDF ?_
          refine je ?_
          refine WS.pcondF rfl rfl ?_
          refine WS.pskip rfl ?_
          refine jq ?_
          refine jg ?_
          iterate 2 refine jo ?_
          refine jI ?_
          refine jP ?_
          refine WS.po (tb := tb) rfl rfl rfl rfl (step_R rfl (evR_load rfl rfl rfl rfl (cellsR_get0 hx rfl))) ?_
          refine jo ?_
          refine jDT ?_
          iterate 2 refine jo ?_
          refine jB true ?_
          refine jo ?_
          refine je ?_
          refine WS.pcondT rfl rfl ?_
          refine jg ?_
          iterate 2 refine jo ?_
          refine je ?_
          refine jg ?_
          refine jo ?_
          refine jW ?_
          refine jo ?_
          refine je ?_
          refine WS.nil ?_
          exact ⟨(i + 1, f, i), ⟨by simp only; omega, hf, hg'⟩, by simp only; omega, (jSn [0,1,2,3,4,5,6] (by simp [jVb, jOb, jMb, mapL_cellsR, okL_cellsR, asM, tsR, trR, arR]) (by simp only [jSl, jOb, jMb, Nat.reduceAdd, Nat.reduceLT, asM, tsR, trR, arR] <;> exact jClo))⟩
        · have hg' : Pos L (ceilR k (L.take (i + 1))) (j : Int) := by rw [eG, g2]; exact .inr ⟨j, y, rfl, gy, rfl⟩
          subst g1
          iterate 2 refine jq ?_
          refine jg ?_
          iterate 3 refine jo ?_
          refine jDT ?_
          refine je ?_
          refine WS.pcondT rfl rfl ?_
          refine WS.pskip rfl ?_
          refine jq ?_
          refine WS.pblock rfl ?_
          iterate 2 refine jq ?_
          refine jg ?_
          iterate 2 refine jo ?_
          refine jI ?_
          refine jP ?_
          refine WS.po (tb := tb) rfl rfl rfl rfl (step_R rfl (evR_load rfl rfl rfl rfl (cellsR_get0 hx rfl))) ?_
          refine jo ?_
          refine jDF ?_
          refine je ?_
          refine WS.pcondF rfl rfl ?_
          refine WS.pskip rfl ?_
          refine jq ?_
          refine jg ?_
          iterate 2 refine jo ?_
          refine jI ?_
          refine jP ?_
          refine WS.po (tb := tb) rfl rfl rfl rfl (step_R rfl (evR_load rfl rfl rfl rfl (cellsR_get0 hx rfl))) ?_
          refine jo ?_
          refine jDT ?_
          iterate 2 refine jo ?_
          refine jB false ?_
          refine jo ?_
          refine je ?_
          refine WS.pcondF rfl rfl ?_
          refine WS.pskip rfl ?_
          refine jg ?_
          refine jo ?_
          refine jW ?_
          refine jo ?_
          refine je ?_
          refine WS.nil ?_
          exact ⟨(i + 1, f, j), ⟨by simp only; omega, hf, hg'⟩, by simp only; omega, (jSn [0,1,2,3,4,5,6] (by simp [jVb, jOb, jMb, mapL_cellsR, okL_cellsR, asM, tsR, trR, arR]) (by simp only [jSl, jOb, jMb, Nat.reduceAdd, Nat.reduceLT, asM, tsR, trR, arR] <;> exact jClo))⟩
    · obtain rfl : i = s.n := by omega
      rw [← hrl, List.take_length] at hf hg
      rw [ho2] at hf
      rw [ho3] at hg
      iterate 2 refine jq ?_
      refine jg ?_
      iterate 3 refine jo ?_
      refine jDF ?_
      refine je ?_
      refine WS.pcondF rfl rfl ?_
      refine WS.pout rfl rfl ?_
      exact ⟨rfl, (f, g), ⟨hf, hg⟩, (jSn [0,1,2,3,4,5,6] (by simp [jVb, jOb, jMb, mapL_cellsR, okL_cellsR, asM, tsR, trR, arR]) (by simp only [jSl, jOb, jMb, Nat.reduceAdd, Nat.reduceLT, asM, tsR, trR, arR] <;> exact jClo))⟩
  · rintro ⟨f, g⟩ ⟨hf, hg⟩
    subst hXB
    dsimp only at hf hg
    have S2 := same_any L q _ _ hf (by omega)
    have S3 := same_any L q _ _ hg (by omega)
    rw [hrl] at S2 S3
    simp only [asM, tsR, trR, arR, List.cons_append, List.nil_append]
    refine jq ?_
    refine jg ?_
    iterate 2 refine jo ?_
    refine jc [3] A (by simp [jOb, roW]) (by simp [jEb, jOb, jMb, mapL_cellsR, okL_cellsR, roW]) ?_; rintro _ _ ⟨rfl, rfl⟩ -; simp only [jPg, jMb, ll, Nat.reduceAdd, Nat.reduceLT, Nat.zero_add, if_true, if_false, Nat.reduceSub, reduceIte, mapL_cellsR, Nat.lt_irrefl, Nat.not_lt_zero, Nat.zero_lt_succ, Nat.lt_add_one, roW]
    refine jo ?_
    refine je ?_
    refine jq ?_
    refine jg ?_
    iterate 2 refine jo ?_
    refine WS.poA (tb := tb) rfl rfl rfl rfl rfl (by simp only [List.drop_zero, List.drop_succ_cons, List.take_succ_cons, List.take_zero, rwPl, rwRn, rwVw]; exact rfl) ?_
    refine jo ?_
    refine jc [3] S1 (by simp [jOb, roW]) (by simp [jEb, jOb, jMb, mapL_cellsR, okL_cellsR, roW]) ?_; rintro _ _ ⟨rfl, rfl⟩ -; simp only [jPg, jMb, ll, Nat.reduceAdd, Nat.reduceLT, Nat.zero_add, if_true, if_false, Nat.reduceSub, reduceIte, mapL_cellsR, Nat.lt_irrefl, Nat.not_lt_zero, Nat.zero_lt_succ, Nat.lt_add_one, roW]
    iterate 3 refine jo ?_
    refine WS.poA (tb := tb) rfl rfl rfl rfl rfl (by simp only [List.drop_zero, List.drop_succ_cons, List.take_succ_cons, List.take_zero, rwPl, rwRn, rwVw]; exact rfl) ?_
    refine jo ?_
    refine jc [3] S2 (by simp [jOb, roW]) (by simp [jEb, jOb, jMb, mapL_cellsR, okL_cellsR, roW]) ?_; rintro _ _ ⟨rfl, rfl⟩ -; simp only [jPg, jMb, ll, Nat.reduceAdd, Nat.reduceLT, Nat.zero_add, if_true, if_false, Nat.reduceSub, reduceIte, mapL_cellsR, Nat.lt_irrefl, Nat.not_lt_zero, Nat.zero_lt_succ, Nat.lt_add_one, roW]
    iterate 4 refine jo ?_
    refine WS.poA (tb := tb) rfl rfl rfl rfl rfl (by simp only [List.drop_zero, List.drop_succ_cons, List.take_succ_cons, List.take_zero, rwPl, rwRn, rwVw]; exact rfl) ?_
    refine jo ?_
    refine jc [3] S3 (by simp [jOb, roW]) (by simp [jEb, jOb, jMb, mapL_cellsR, okL_cellsR, roW]) ?_; rintro _ _ ⟨rfl, rfl⟩ -; simp only [jPg, jMb, ll, Nat.reduceAdd, Nat.reduceLT, Nat.zero_add, if_true, if_false, Nat.reduceSub, reduceIte, mapL_cellsR, Nat.lt_irrefl, Nat.not_lt_zero, Nat.zero_lt_succ, Nat.lt_add_one, roW]
    iterate 2 refine jo ?_
    refine je ?_
    refine WS.pret rfl ⟨.inr rfl, _, rfl, ?_⟩
    exact ⟨_, rfl, [0,1,2,3], asM s L, .b true, ⟨rfl, rfl, (by simp [jVb, jOb, jMb, mapL_cellsR, okL_cellsR, asM, tsR, trR, arR]), rfl⟩, rfl, trivial, rfl, rfl⟩
end Go.Proofs.Ytpogfelbimcglaa.Am

