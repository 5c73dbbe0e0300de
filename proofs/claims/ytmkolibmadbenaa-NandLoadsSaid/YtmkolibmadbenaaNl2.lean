/- Functions of the flash, walked. Conditions: those of each theorem. -/
import Derived.Test.YtmkolibmadbenaaAm5
import Derived.Test.YtmkolibmadbenaaNl1
namespace Go.Proofs.Ytmkolibmadbenaa.Am
open Go.Proofs
set_option maxRecDepth 1000000
set_option maxHeartbeats 4000000
set_option linter.unusedSimpArgs false
set_option linter.unusedVariables false
/-- What a block's two bytes tell. -/
def fgI (I : List Int) (W k : Nat) : Int := I.getD (W + 2 * k) 0
def nxI (I : List Int) (W k : Nat) : Int := I.getD (W + 2 * k + 1) 0
def ldBk (I : List Int) (W k : Nat) : Bk := ⟨nxI I W k, fgI I W k == 1 || fgI I W k == 3, fgI I W k == 2 || fgI I W k == 3, 0⟩
/-- May a block be so? -/
def okBk (I : List Int) (p W k : Nat) : Prop := fgI I W k ≤ 3 ∧ nxI I W k ≤ p ∧
  (fgI I W k ≤ 1 → allB I (k * (p * 68) + (nxI I W k).toNat * 68) ((p - (nxI I W k).toNat) * 68) 255 = true) ∧ (2 ≤ fgI I W k → nxI I W k = 0 ∧ allB I (k * (p * 68)) (p * 68) 0 = true)
def bkL (I : List Int) (W b j : Nat) : List Bk := (List.range b).map fun k => if k < j then ldBk I W k else ⟨0, false, false, 0⟩
theorem bkL_len (I : List Int) (W b j : Nat) : (bkL I W b j).length = b := by simp [bkL]
theorem bkL_0 (I : List Int) (W b : Nat) : bkL I W b 0 = List.replicate b ⟨0, false, false, 0⟩ := by
  apply List.ext_getElem?
  intro i
  simp only [bkL, Nat.not_lt_zero, if_false, List.getElem?_map, List.getElem?_replicate]
  by_cases h : i < b <;> simp [h]
theorem bkL_set (I : List Int) {W b j : Nat} (h : j < b) : (bkL I W b j).set j (ldBk I W j) = bkL I W b (j + 1) := by
  apply List.ext_getElem?
  intro i
  rw [List.getElem?_set]
  by_cases hi : j = i
  · subst hi
    rw [if_pos rfl, bkL_len, if_pos h]
    simp [bkL, h]
  · rw [if_neg hi]
    by_cases hb : i < b
    · by_cases hj : i < j
      · simp [bkL, hb, hj, show i < j + 1 by omega]
      · simp [bkL, hb, hj, show ¬ i < j + 1 by omega]
    · simp [bkL, hb]
/-- Bytes at the end are bytes. -/
def BytF (I : List Int) (W : Nat) : Prop := ∀ (i : Nat) (v : Int), W ≤ i → I[i]? = some v → 0 ≤ v ∧ v ≤ 255
def ldS (I : List Int) (b p W : Nat) : NS := ⟨p, I.take W, bkL I W b b, false, -1, -1, 0, 0, 0⟩
/-- The flash that is being made. -/
def ldM (I : List Int) (b p W j : Nat) : List (Option Blk) := [some ⟨cellsR (rwI .u8) I, 5, false⟩, some ⟨cellsR (rwI .u8) (I.take W), 5, true⟩, some ⟨cellsR rwBk (bkL I W b j), 70, true⟩,
  some ⟨[.i .i64 p, .sl (some (1,0)) W W false, .sl (some (2,0)) b b false, .b false, .i .i64 (-1), .i .i64 (-1), .i .i64 0, .i .i64 0, .i .i64 0], 66, true⟩]
theorem load_arg (z1 z2 : Int) (a : Option (Nat × Nat)) (n c : Nat) (q : Bool) (M : List (Option Blk)) (h : z1 < 1 ∨ 64 < z1 ∨ z2 < 1 ∨ 32 < z2) : FM Try.prog 28 [.i .i64 z1, .i .i64 z2, .sl a n c q] M (fun v M' => v = .tup [.p none, .i .i64 1] ∧ M' = M) := by
  have N := nnew_bad z1 z2 h
  refine FM.pbody (tb := tb) (fn := Try.f28) rfl rfl ?_
  simp only [argS, Nat.reduceAdd, List.length_cons, List.length_nil]
  refine jq ?_
  refine jg ?_
  iterate 2 refine jo ?_
  refine je ?_
  refine jq ?_
  refine jg ?_
  iterate 2 refine jo ?_
  refine jc [] N (by simp [jOb]) (by simp [jEb, jOb, jMb, mapL_cellsR, okL_cellsR]) ?_; rintro _ _ ⟨rfl, rfl⟩ -; simp only [jPg, jMb, ll, Nat.reduceAdd, Nat.reduceLT, Nat.zero_add, if_true, if_false, Nat.reduceSub, reduceIte, mapL_cellsR, Nat.lt_irrefl, Nat.not_lt_zero, Nat.zero_lt_succ, Nat.lt_add_one]
  iterate 5 refine jo ?_
  refine je ?_
  iterate 2 refine jq ?_
  refine jg ?_
  refine jo ?_
  refine jB true ?_
  refine je ?_
  refine WS.pcondT rfl rfl ?_
  refine jq ?_
  refine jg ?_
  iterate 3 refine jo ?_
  refine je ?_
  refine WS.pret rfl ⟨.inr rfl, _, rfl, ?_⟩
  exact ⟨_, rfl, rfl, rfl⟩
theorem load_len (b p np W n c : Nat) (q : Bool) (I : List Int) (h1 : 1 ≤ b) (h2 : b ≤ 64) (h3 : 1 ≤ p) (h4 : p ≤ 32) (hp : (b : Int) * p = (np : Int)) (hnp : np ≤ 10000) (hW : W = np * 68) (h : ¬ n = W + 2 * b) (hn : n ≤ 9223372036854775807) :
    FM Try.prog 28 [.i .i64 b, .i .i64 p, .sl (some (0,0)) n c q] [some ⟨cellsR (rwI .u8) I, 5, false⟩] (fun v M' => v = .tup [.p none, .i .i64 11] ∧ M' = [some ⟨cellsR (rwI .u8) I, 5, false⟩]) := by
  have N := nnew_ok b p np h1 h2 h3 h4 hp hnp
  simp only [ndM, ns0, List.length_replicate, ← hW] at N
  refine FM.pbodyV (tb := tb) (fn := Try.f28) rfl rfl ?_
  simp only [argS, Nat.reduceAdd, List.length_cons, List.length_nil]
  refine jq ?_
  refine jg ?_
  iterate 2 refine jo ?_
  refine je ?_
  refine jq ?_
  refine jg ?_
  iterate 2 refine jo ?_
  refine jc [] N (by simp [jOb]) (by simp [jEb, jOb, jMb, mapL_cellsR, okL_cellsR]) ?_; rintro _ _ ⟨rfl, rfl⟩ -; simp only [jPg, jMb, ll, Nat.reduceAdd, Nat.reduceLT, Nat.zero_add, if_true, if_false, Nat.reduceSub, reduceIte, mapL_cellsR, Nat.lt_irrefl, Nat.not_lt_zero, Nat.zero_lt_succ, Nat.lt_add_one]
  iterate 5 refine jo ?_
  refine je ?_
  iterate 2 refine jq ?_
  refine jg ?_
  refine jo ?_
  refine jB false ?_
  refine je ?_
  refine WS.pcondF rfl rfl ?_
  refine WS.pskip rfl ?_
  iterate 2 refine jq ?_
  refine jg ?_
  iterate 4 refine jo ?_
  refine jP ?_
  iterate 3 refine jo ?_
  iterate 2 refine jW ?_
  refine jNT ?_
  refine je ?_
  refine WS.pcondT rfl rfl ?_
  refine jq ?_
  refine jg ?_
  iterate 2 refine jo ?_
  refine je ?_
  refine WS.pret rfl ⟨.inr rfl, _, rfl, ?_⟩
  exact ⟨_, rfl, [0], [some ⟨cellsR (rwI .u8) I, 5, false⟩], .tup [.p none, .i .i64 11], ⟨rfl, rfl, (by simp [jVb, jOb, jMb, mapL_cellsR, okL_cellsR]), rfl⟩, rfl, by simp [okV, okL], rfl, rfl⟩
end Go.Proofs.Ytmkolibmadbenaa.Am

