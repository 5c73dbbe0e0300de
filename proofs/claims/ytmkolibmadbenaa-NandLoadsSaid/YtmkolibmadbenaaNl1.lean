/- Functions of the flash, walked. Conditions: those of each theorem. -/
import Derived.Test.YtmkolibmadbenaaAm5
import Derived.Test.YtmkolibmadbenaaNp6
import Derived.Test.YtmkolibmadbenaaNd6
namespace Go.Proofs.Ytmkolibmadbenaa.Am
open Go.Proofs
set_option maxRecDepth 1000000
set_option maxHeartbeats 4000000
set_option linter.unusedSimpArgs false
set_option linter.unusedVariables false
/-- Are all of some bytes one? -/
def allB (xs : List Int) (o n : Nat) (v : Int) : Bool := ((xs.drop o).take n).all fun y => y == v
theorem allB_0 (xs : List Int) (o : Nat) (v : Int) : allB xs o 0 v = true := rfl
theorem allB_succ {xs : List Int} {o n : Nat} {v x : Int} (h : xs[o + n]? = some x) : allB xs o (n + 1) v = (allB xs o n v && (x == v)) := by
  unfold allB
  rw [List.take_add_one, List.getElem?_drop, h]
  simp [List.all_append]
theorem allB_no {xs : List Int} {o : Nat} {v : Int} : ∀ {n m : Nat}, n ≤ m → allB xs o n v = false → allB xs o m v = false := by
  intro n m h hf
  obtain ⟨d, rfl⟩ : ∃ d, m = n + d := ⟨m - n, by omega⟩
  unfold allB at hf ⊢
  rw [List.take_add, List.all_append, hf, Bool.false_and]
theorem allB_iff {xs : List Int} {o n : Nat} {v : Int} (h : o + n ≤ xs.length) : allB xs o n v = true ↔ ∀ j, j < n → xs[o + j]? = some v := by
  unfold allB
  rw [List.all_eq_true]
  constructor
  · intro hx j hj
    have h1 : ((xs.drop o).take n)[j]? = some xs[o + j] := by
      rw [List.getElem?_take, if_pos hj, List.getElem?_drop, List.getElem?_eq_getElem (by omega)]
    have := hx _ (List.mem_of_getElem? h1)
    rw [List.getElem?_eq_getElem (by omega)]
    simpa using this
  · intro hx y hy
    obtain ⟨j, hj⟩ := List.mem_iff_getElem?.1 hy
    rw [List.getElem?_take] at hj
    split at hj
    · next h1 =>
      rw [List.getElem?_drop, hx j h1] at hj
      simp only [Option.some.injEq] at hj
      simp [hj]
    · cases hj
theorem all_walk (xs : List Int) (o n c : Nat) (v : Int) (q : Bool) (h : o + n ≤ xs.length) (hm : xs.length ≤ 1000000) : FM Try.prog 42 [.sl (some (0, o)) n c q, .i .u8 v] [some ⟨cellsR (rwI .u8) xs, 5, false⟩] (fun u M' => u = .b (allB xs o n v) ∧ M' = [some ⟨cellsR (rwI .u8) xs, 5, false⟩]) := by
  refine FM.pbody (tb := tb) (fn := Try.f42) rfl rfl ?_
  simp only [argS, Nat.reduceAdd, List.length_cons, List.length_nil]
  refine jq ?_
  refine jg ?_
  refine jo ?_
  refine je ?_
  iterate 2 refine jq ?_
  refine jg ?_
  iterate 3 refine jo ?_
  refine je ?_
  refine WS.pblock rfl ?_
  refine WS.ploopI (σ := Nat) (τ := Unit) (fun i => [(1, .i .u8 v), (7, .sl (some (0, o)) n c q), (8, .i .i64 n), (9, .i .i64 i)]) (fun _ => [some ⟨cellsR (rwI .u8) xs, 5, false⟩]) (fun i => i ≤ n ∧ allB xs o i v = true) (fun i => n - i)
    (fun _ => []) (fun _ => [some ⟨cellsR (rwI .u8) xs, 5, false⟩]) (fun _ => allB xs o n v = true) 0 [0] 0 rfl ⟨Nat.zero_le _, allB_0 _ _ _⟩ (jSb (by simp [jVb, jOb, jMb, mapL_cellsR, okL_cellsR]) (by simp only [jSl, jOb, jMb, Nat.reduceAdd, Nat.reduceLT] <;> exact jClo)) rfl ?_ ?_
  · rintro i ⟨hi, ha⟩
    by_cases hlt : i < n
    · obtain ⟨x, hx⟩ : ∃ x, xs[o + i]? = some x := ⟨_, List.getElem?_eq_getElem (by omega)⟩
      have hs := allB_succ (v := v) hx
      by_cases hv : x = v
      · subst hv
        rw [ha] at hs
        refine jq ?_
        refine jg ?_
        refine jDT ?_
        refine je ?_
        refine jq ?_
        refine WS.pcondT rfl rfl ?_
        refine WS.pskip rfl ?_
        refine jq ?_
        refine WS.pblock rfl ?_
        refine jq ?_
        refine jg ?_
        refine jI ?_
        refine WS.po (tb := tb) rfl rfl rfl rfl (step_R rfl (evR_load rfl rfl rfl rfl (cellsI_get hx))) ?_
        refine jo ?_
        refine je ?_
        refine jq ?_
        refine jg ?_
        iterate 2 refine jo ?_
        refine jNF ?_
        refine je ?_
        refine WS.pcondF rfl rfl ?_
        refine WS.pskip rfl ?_
        refine jg ?_
        refine jW ?_
        refine jo ?_
        refine je ?_
        refine WS.nil ?_
        exact ⟨i + 1, ⟨by omega, by rw [hs]; simp⟩, by omega, (jSn [0] (by simp [jVb, jOb, jMb, mapL_cellsR, okL_cellsR]) (by simp only [jSl, jOb, jMb, Nat.reduceAdd, Nat.reduceLT] <;> exact jClo))⟩
      · rw [ha, beq_eq_false_iff_ne.2 hv] at hs
        have hn := allB_no (m := n) (by omega) hs
        refine jq ?_
        refine jg ?_
        refine jDT ?_
        refine je ?_
        refine jq ?_
        refine WS.pcondT rfl rfl ?_
        refine WS.pskip rfl ?_
        refine jq ?_
        refine WS.pblock rfl ?_
        refine jq ?_
        refine jg ?_
        refine jI ?_
        refine WS.po (tb := tb) rfl rfl rfl rfl (step_R rfl (evR_load rfl rfl rfl rfl (cellsI_get hx))) ?_
        refine jo ?_
        refine je ?_
        refine jq ?_
        refine jg ?_
        iterate 2 refine jo ?_
        refine jNT ?_
        refine je ?_
        refine WS.pcondT rfl rfl ?_
        refine jq ?_
        refine jg ?_
        refine jo ?_
        refine je ?_
        refine WS.pret rfl ⟨.inr rfl, _, rfl, ?_⟩
        exact ⟨_, rfl, by rw [hn], rfl⟩
    · obtain rfl : i = n := by omega
      refine jq ?_
      refine jg ?_
      refine jDF ?_
      refine je ?_
      refine jq ?_
      refine WS.pcondF rfl rfl ?_
      refine WS.pout rfl rfl ?_
      exact ⟨rfl, (), ha, (jSn [0] (by simp [jVb, jOb, jMb, mapL_cellsR, okL_cellsR]) (by simp only [jSl, jOb, jMb, Nat.reduceAdd, Nat.reduceLT] <;> exact jClo))⟩
  · rintro _ ha
    refine jq ?_
    refine jg ?_
    refine jo ?_
    refine je ?_
    refine WS.pret rfl ⟨.inr rfl, _, rfl, ?_⟩
    exact ⟨_, rfl, by rw [ha], rfl⟩
end Go.Proofs.Ytmkolibmadbenaa.Am

