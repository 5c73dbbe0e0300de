/- NandSteps answers true for any numbers, in every world. No conditions. -/
import Derived.Test.YtmkolibmadbenaaNs2
namespace Go.Proofs.Ytmkolibmadbenaa.Am
open Go.Proofs
set_option maxRecDepth 1000000
set_option maxHeartbeats 4000000
set_option linter.unusedSimpArgs false
set_option linter.unusedVariables false
theorem bsK_head (v : Int) (k : Nat) (hk : k ≤ 17) : ((bsK (List.replicate 136 255) (r68 v) 0 k).drop (0 * 68)).take 68 = List.replicate (k * 4) v ++ List.replicate (68 - k * 4) 255 := by
  obtain ⟨m, hm⟩ : ∃ m, m = 136 := ⟨_, rfl⟩
  rw [← hm]
  have h1 : (r68 v).take (k * 4) = List.replicate (k * 4) v := by unfold r68; rw [List.take_replicate, Nat.min_eq_left (by omega)]
  unfold bsK over2
  rw [h1, Nat.zero_mul, List.take_zero, List.nil_append, Nat.zero_add, List.length_replicate, List.drop_zero, List.drop_replicate, List.take_append, List.take_replicate, List.length_replicate, List.take_replicate, Nat.min_eq_right (show k * 4 ≤ 68 by omega), Nat.min_eq_left (by omega)]
def stM (B : List Int) (G : List Bk) (L : List Int) : List (Option Blk) := [some ⟨cellsR (rwI .u8) B, 5, true⟩, some ⟨cellsR rwBk G, 70, true⟩, some ⟨[.i .i64 2, .sl (some (0,0)) 136 136 false, .sl (some (1,0)) 1 1 false, .b false, .i .i64 (-1), .i .i64 (-1), .i .i64 1, .i .i64 1, .i .i64 0], 66, true⟩, some ⟨cellsR (rwI .u8) L, 5, true⟩]
theorem steps_walk (v st : Int) (hv0 : 0 ≤ v) (hv : v < 255) (hst : st ≤ 9223372036854775807) :
    FM Try.prog 5 [.i .u8 v, .i .i64 st] [] (fun u _ => u = .b true) := by
  have AW := awake_fm
  have PG := page_walk v
  have N := nnew_ok 1 2 2 (by omega) (by omega) (by omega) (by omega) rfl (by omega)
  obtain ⟨c, hc⟩ : ∃ c, c = max st (-1) := ⟨_, rfl⟩
  obtain ⟨R, hR⟩ : ∃ R : List Int, R = List.replicate 136 255 := ⟨_, rfl⟩
  have hRl : R.length = 136 := by rw [hR, List.length_replicate]
  have n0 : ns0 1 2 2 = ⟨2, R, [⟨0, false, false, 0⟩], false, -1, -1, 0, 0, 0⟩ := by rw [hR]; rfl
  rw [n0] at N
  have CU := cut_walk ⟨2, R, [⟨0, false, false, 0⟩], false, -1, -1, 0, 0, 0⟩ st
  rw [← hc] at CU
  simp only at CU
  obtain ⟨k, hk⟩ : ∃ k : Nat, k = if 0 ≤ c ∧ c < 17 then c.toNat else 17 := ⟨_, rfl⟩
  have hk17 : k ≤ 17 := by rw [hk]; split <;> omega
  have A := program_go ⟨2, R, [⟨0, false, false, 0⟩], false, c, -1, 0, 0, 0⟩ (r68 v) 0 68 2 0 0 false ⟨0, false, false, 0⟩ rfl (by omega) (by omega) rfl (by simp) (by simp) (by simp only; omega) (by simp only; omega) (by simp only; omega) (by simp) rfl rfl rfl rfl (by simp only; omega) (L68 v) (by omega) (by simp only; omega) (by simp only; omega) (by simp only; omega) (by simp only; omega) (by simp only; omega) (by simp only; omega)
  have hE : prE ⟨2, R, [⟨0, false, false, 0⟩], false, c, -1, 0, 0, 0⟩ = if 0 ≤ c ∧ c < 17 then 7 else 0 := by unfold prE; simp [prM]
  obtain ⟨off, ct, hS⟩ : ∃ off ct, prS ⟨2, R, [⟨0, false, false, 0⟩], false, c, -1, 0, 0, 0⟩ 0 0 0 (r68 v) ⟨0, false, false, 0⟩ = ⟨2, bsK R (r68 v) 0 k, bkK [⟨0, false, false, 0⟩] 0 ⟨0, false, false, 0⟩ 0 k, off, ct, -1, 0, 1, 0⟩ := by
    unfold prS
    by_cases h : 0 ≤ c ∧ c < 17
    · refine ⟨true, cutK c k, ?_⟩
      rw [if_pos (by simpa [prM] using h), hk, if_pos h]
      simp [prX, bgS, prK]
    · refine ⟨false, cutK c 17, ?_⟩
      rw [if_neg (by simpa [prM] using h), hk, if_neg h]
      simp [prX, bgS, prK]
  rw [hS, hE] at A
  obtain ⟨B, hB⟩ : ∃ B, B = bsK R (r68 v) 0 k := ⟨_, rfl⟩
  obtain ⟨G, hG⟩ : ∃ G, G = bkK [(⟨0, false, false, 0⟩ : Bk)] 0 ⟨0, false, false, 0⟩ 0 k := ⟨_, rfl⟩
  rw [← hB, ← hG] at A
  have hbl : B.length = 136 := by rw [hB]; exact (bsK_len (by omega) hk17).trans hRl
  have hkl : G.length = 1 := by rw [hG]; exact bkK_len _ _ _ _ _
  have ON := on_walk ⟨2, B, G, off, ct, -1, 0, 1, 0⟩
  have RD := read_ok ⟨2, B, G, false, -1, -1, 0, 1, 0⟩ 0 2 (by simp only [hkl]; rfl) (by omega) (by simp only; omega) (by omega) rfl (by simp only; omega) (by simp only; omega) (by simp only; omega)
  have hcont : (B.drop (0 * 68)).take 68 = List.replicate (k * 4) v ++ List.replicate (68 - k * 4) 255 := by rw [hB, hR]; exact bsK_head v k hk17
  simp only [hcont] at RD
  obtain ⟨nx, hnx⟩ : ∃ nx : Int, nx = if k = 0 then 0 else 1 := ⟨_, rfl⟩
  have hget : ∃ y, G[0]? = some y ∧ y.next = nx := by
    rw [hG]; refine ⟨_, bkK_get rfl 0 k, ?_⟩
    rw [hnx]; split <;> rfl
  obtain ⟨y, hy, hyn⟩ := hget
  have NX := next_yes ⟨2, B, G, false, -1, -1, 1, 1, 0⟩ 0 y hy (by simp only; omega)
  rw [hyn] at NX
  obtain ⟨L, hL⟩ : ∃ L, L = List.replicate (k * 4) v ++ List.replicate (68 - k * 4) 255 := ⟨_, rfl⟩
  have hlen : L.length = 68 := by rw [hL, List.length_append, List.length_replicate, List.length_replicate]; omega
  have h1 : ∀ i, i < k * 4 → L[i]? = some v := fun i hi => by rw [hL, List.getElem?_append_left (by rw [List.length_replicate]; exact hi), List.getElem?_replicate, if_pos hi]
  have h2 : ∀ i, k * 4 ≤ i → i < 68 → L[i]? = some 255 := fun i hi hi2 => by rw [hL, List.getElem?_append_right (by rw [List.length_replicate]; exact hi), List.length_replicate, List.getElem?_replicate, if_pos (by omega)]
  rw [← hL] at RD
  clear hL hcont
  have e0 : ∀ (a : Option (Nat × Nat)), ((0 : Nat) : Int) = 0 := fun _ => rfl
  simp only [ndM, ndR, dtB, hRl, hbl, hkl, List.length_cons, List.length_nil, Nat.reduceAdd, List.cons_append, List.nil_append, Int.ofNat_eq_natCast, e0 none] at N A CU ON RD NX
  by_cases hin : 0 ≤ c ∧ c < 17
  · rw [if_pos hin] at A
    refine FM.pbody (tb := tb) (fn := Try.f5) rfl rfl ?_
    simp only [argS, Nat.reduceAdd, List.length_cons, List.length_nil]
    refine jq ?_
    refine jg ?_
    refine jo ?_
    refine je ?_
    iterate 2 refine jq ?_
    refine jg ?_
    refine jc [] AW (by simp [jOb]) (by simp [jEb, jOb, jMb, mapL_cellsR, okL_cellsR]) ?_; rintro _ _ ⟨rfl, rfl⟩ -; simp only [jPg, jMb, ll, Nat.reduceAdd, Nat.reduceLT, Nat.zero_add, if_true, if_false, Nat.reduceSub, reduceIte, mapL_cellsR, Nat.lt_irrefl, Nat.not_lt_zero, Nat.zero_lt_succ, Nat.lt_add_one]
    refine jB false ?_
    refine je ?_
    refine WS.pcondF rfl rfl ?_
    refine WS.pskip rfl ?_
    iterate 2 refine jq ?_
    refine jg ?_
    refine jo ?_
    refine jDF ?_
    refine je ?_
    refine WS.pcondF rfl rfl ?_
    refine WS.pskip rfl ?_
    refine jq ?_
    refine jg ?_
    refine jc [] N (by simp [jOb]) (by simp [jEb, jOb, jMb, mapL_cellsR, okL_cellsR]) ?_; rintro _ _ ⟨rfl, rfl⟩ -; simp only [jPg, jMb, ll, Nat.reduceAdd, Nat.reduceLT, Nat.zero_add, if_true, if_false, Nat.reduceSub, reduceIte, mapL_cellsR, Nat.lt_irrefl, Nat.not_lt_zero, Nat.zero_lt_succ, Nat.lt_add_one]
    iterate 5 refine jo ?_
    refine je ?_
    iterate 2 refine jq ?_
    refine jg ?_
    refine jo ?_
    refine jB false ?_
    refine je ?_
    refine WS.pcondF rfl rfl ?_
    refine WS.pskip rfl ?_
    refine jq ?_
    refine jg ?_
    iterate 2 refine jo ?_
    refine jc [0,1,2] CU (by simp [jOb]) (by simp [jEb, jOb, jMb, mapL_cellsR, okL_cellsR]) ?_; rintro _ _ ⟨rfl, rfl⟩ -; simp only [jPg, jMb, ll, Nat.reduceAdd, Nat.reduceLT, Nat.zero_add, if_true, if_false, Nat.reduceSub, reduceIte, mapL_cellsR, Nat.lt_irrefl, Nat.not_lt_zero, Nat.zero_lt_succ, Nat.lt_add_one]
    refine je ?_
    refine jq ?_
    refine jg ?_
    iterate 2 refine jo ?_
    refine jc [] PG (by simp [jOb]) (by simp [jEb, jOb, jMb, mapL_cellsR, okL_cellsR]) ?_; rintro _ _ ⟨rfl, rfl⟩ -; simp only [jPg, jMb, ll, Nat.reduceAdd, Nat.reduceLT, Nat.zero_add, if_true, if_false, Nat.reduceSub, reduceIte, mapL_cellsR, Nat.lt_irrefl, Nat.not_lt_zero, Nat.zero_lt_succ, Nat.lt_add_one]
    refine jc [0,1,2,3] A (by simp [jOb]) (by simp [jEb, jOb, jMb, mapL_cellsR, okL_cellsR]) ?_; rintro _ _ ⟨rfl, rfl⟩ -; simp only [jPg, jMb, ll, Nat.reduceAdd, Nat.reduceLT, Nat.zero_add, if_true, if_false, Nat.reduceSub, reduceIte, mapL_cellsR, Nat.lt_irrefl, Nat.not_lt_zero, Nat.zero_lt_succ, Nat.lt_add_one]
    refine jo ?_
    refine je ?_
    refine jq ?_
    refine jg ?_
    refine jo ?_
    refine jc [0,1,2] ON (by simp [jOb]) (by simp [jEb, jOb, jMb, mapL_cellsR, okL_cellsR]) ?_; rintro _ _ ⟨rfl, rfl⟩ -; simp only [jPg, jMb, ll, Nat.reduceAdd, Nat.reduceLT, Nat.zero_add, if_true, if_false, Nat.reduceSub, reduceIte, mapL_cellsR, Nat.lt_irrefl, Nat.not_lt_zero, Nat.zero_lt_succ, Nat.lt_add_one]
    refine je ?_
    refine jq ?_
    refine jg ?_
    refine jo ?_
    refine jc [0,1,2] RD (by simp [jOb]) (by simp [jEb, jOb, jMb, mapL_cellsR, okL_cellsR]) ?_; rintro _ _ ⟨rfl, rfl⟩ -; simp only [jPg, jMb, ll, Nat.reduceAdd, Nat.reduceLT, Nat.zero_add, if_true, if_false, Nat.reduceSub, reduceIte, mapL_cellsR, Nat.lt_irrefl, Nat.not_lt_zero, Nat.zero_lt_succ, Nat.lt_add_one]
    iterate 5 refine jo ?_
    refine je ?_
    refine jq ?_
    refine jg ?_
    refine jo ?_
    refine je ?_
    refine jq ?_
    refine WS.pblock rfl ?_
    refine WS.ploopI (σ := Nat) (τ := Unit) (fun i => [(0, .i .u8 v), (1, .i .i64 st), (5, .p (some (2,0))), (6, .i .i64 0), (7, .i .i64 7), (8, .sl (some (3,0)) 68 68 true), (9, .i .i64 i)]) (fun _ => stM B G L) (fun i => i ≤ k * 4) (fun i => k * 4 - i)
      (fun _ => [(0, .i .u8 v), (1, .i .i64 st), (5, .p (some (2,0))), (6, .i .i64 0), (7, .i .i64 7), (8, .sl (some (3,0)) 68 68 true), (9, .i .i64 (k * 4 : Nat))]) (fun _ => stM B G L) (fun _ => True) 0 [0,1,2,4] 0 rfl (Nat.zero_le _) (jSb (by simp [jVb, jOb, jMb, mapL_cellsR, okL_cellsR, stM]) (by simp only [jSl, jOb, jMb, Nat.reduceAdd, Nat.reduceLT, stM] <;> exact jClo)) rfl ?_ ?_
    · intro i hi
      simp only [stM]
      by_cases hlt : i < k * 4
      · have hx := h1 i hlt
        iterate 2 refine jq ?_
        refine jg ?_
        iterate 3 refine jo ?_
        refine jDT ?_
        iterate 3 refine jo ?_
        refine jI ?_
        refine WS.po (tb := tb) rfl rfl rfl rfl (step_R rfl (evR_load rfl rfl rfl rfl (cellsI_get hx))) ?_
        refine jo ?_
        refine jDT ?_
        refine jo ?_
        refine je ?_
        refine WS.pcondT rfl rfl ?_
        refine WS.pskip rfl ?_
        refine WS.pblock rfl ?_
        refine jg ?_
        refine jo ?_
        refine jW ?_
        refine jo ?_
        refine je ?_
        refine WS.bend ?_
        refine WS.nil ?_
        exact ⟨i + 1, by omega, by omega, (jSn [0,1,2,3] (by simp [jVb, jOb, jMb, mapL_cellsR, okL_cellsR, stM]) (by simp only [jSl, jOb, jMb, Nat.reduceAdd, Nat.reduceLT, stM] <;> exact jClo))⟩
      · obtain rfl : i = k * 4 := by omega
        by_cases h68 : k * 4 < 68
        · have hx := h2 (k * 4) (by omega) h68
          have hne : ¬ (255 : Int) = v := by omega
          iterate 2 refine jq ?_
          refine jg ?_
          iterate 3 refine jo ?_
          refine jDT ?_
          iterate 3 refine jo ?_
          refine jI ?_
          refine WS.po (tb := tb) rfl rfl rfl rfl (step_R rfl (evR_load rfl rfl rfl rfl (cellsI_get hx))) ?_
          refine jo ?_
          refine jDF ?_
          refine jo ?_
          refine je ?_
          refine WS.pcondF rfl rfl ?_
          refine WS.pout rfl rfl ?_
          exact ⟨rfl, (), trivial, (jSn [0,1,2,3] (by simp [jVb, jOb, jMb, mapL_cellsR, okL_cellsR, stM]) (by simp only [jSl, jOb, jMb, Nat.reduceAdd, Nat.reduceLT, stM] <;> exact jClo))⟩
        · refine WS.pseq rfl ?_
          refine jq ?_
          refine jg ?_
          iterate 3 refine jo ?_
          refine jDF ?_
          refine jo ?_
          iterate 6 refine jN ?_
          refine jo ?_
          refine je ?_
          refine WS.pcondF rfl rfl ?_
          refine WS.pout rfl rfl ?_
          exact ⟨rfl, (), trivial, (jSn [0,1,2,3] (by simp [jVb, jOb, jMb, mapL_cellsR, okL_cellsR, stM]) (by simp only [jSl, jOb, jMb, Nat.reduceAdd, Nat.reduceLT, stM] <;> exact jClo))⟩
    · rintro _ -
      simp only [stM]
      iterate 2 refine jq ?_
      refine jg ?_
      iterate 2 refine jo ?_
      refine je ?_
      refine WS.pblock rfl ?_
      refine WS.ploopI (σ := Nat) (τ := Unit) (fun i => [(0, .i .u8 v), (1, .i .i64 st), (5, .p (some (2,0))), (6, .i .i64 0), (7, .i .i64 7), (8, .sl (some (3,0)) 68 68 true), (9, .i .i64 (k * 4 : Nat)), (10, .i .i64 i)]) (fun _ => stM B G L) (fun i => k * 4 ≤ i ∧ i ≤ 68) (fun i => 68 - i)
        (fun _ => [(0, .i .u8 v), (1, .i .i64 st), (5, .p (some (2,0))), (6, .i .i64 0), (7, .i .i64 7), (9, .i .i64 (k * 4 : Nat))]) (fun _ => stM B G L) (fun _ => True) 2 [0,1,2,3] (k * 4) rfl ⟨Nat.le_refl _, by omega⟩ (jSb (by simp [jVb, jOb, jMb, mapL_cellsR, okL_cellsR, stM]) (by simp only [jSl, jOb, jMb, Nat.reduceAdd, Nat.reduceLT, stM] <;> exact jClo)) rfl ?_ ?_
      · rintro i ⟨hi0, hi⟩
        simp only [stM]
        by_cases hlt : i < 68
        · have hx := h2 i hi0 hlt
          iterate 2 refine jq ?_
          refine jg ?_
          iterate 3 refine jo ?_
          refine jDT ?_
          refine je ?_
          refine WS.pcondT rfl rfl ?_
          refine WS.pskip rfl ?_
          refine jq ?_
          refine WS.pblock rfl ?_
          refine jq ?_
          refine jg ?_
          iterate 2 refine jo ?_
          refine jI ?_
          refine WS.po (tb := tb) rfl rfl rfl rfl (step_R rfl (evR_load rfl rfl rfl rfl (cellsI_get hx))) ?_
          refine jB false ?_
          refine je ?_
          refine WS.pcondF rfl rfl ?_
          refine WS.pskip rfl ?_
          refine jg ?_
          refine jo ?_
          refine jW ?_
          refine jo ?_
          refine je ?_
          refine WS.nil ?_
          exact ⟨i + 1, ⟨by omega, by omega⟩, by omega, (jSn [0,1,2,3] (by simp [jVb, jOb, jMb, mapL_cellsR, okL_cellsR, stM]) (by simp only [jSl, jOb, jMb, Nat.reduceAdd, Nat.reduceLT, stM] <;> exact jClo))⟩
        · obtain rfl : i = 68 := by omega
          iterate 2 refine jq ?_
          refine jg ?_
          iterate 3 refine jo ?_
          refine jB false ?_
          refine je ?_
          refine WS.pcondF rfl rfl ?_
          refine WS.pout rfl rfl ?_
          exact ⟨rfl, (), trivial, (jSn [0,1,2,3] (by simp [jVb, jOb, jMb, mapL_cellsR, okL_cellsR, stM]) (by simp only [jSl, jOb, jMb, Nat.reduceAdd, Nat.reduceLT, stM] <;> exact jClo))⟩
      · rintro _ -
        simp only [stM]
        have hcs : c = st := by omega
        have hks : (k : Int) = st := by rw [hk, if_pos hin]; omega
        by_cases hk0 : k = 0
        · rw [if_pos hk0] at hnx
          iterate 2 refine jq ?_
          refine jg ?_
          refine jo ?_
          refine jDF ?_
          iterate 2 refine jo ?_
          refine jDF ?_
          refine jo ?_
          refine je ?_
          refine WS.pcondF rfl rfl ?_
          refine WS.pskip rfl ?_
          refine jq ?_
          refine jg ?_
          refine jo ?_
          refine jc [0,1,2] NX (by simp [jOb]) (by simp [jEb, jOb, jMb, mapL_cellsR, okL_cellsR]) ?_; rintro _ _ ⟨rfl, rfl⟩ -; simp only [jPg, jMb, ll, Nat.reduceAdd, Nat.reduceLT, Nat.zero_add, if_true, if_false, Nat.reduceSub, reduceIte, mapL_cellsR, Nat.lt_irrefl, Nat.not_lt_zero, Nat.zero_lt_succ, Nat.lt_add_one]
          iterate 5 refine jo ?_
          refine je ?_
          refine jq ?_
          refine jg ?_
          refine jo ?_
          refine jB true ?_
          iterate 2 refine jo ?_
          refine jB true ?_
          iterate 4 refine jo ?_
          refine jW ?_
          refine jDT ?_
          iterate 3 refine jo ?_
          refine jDF ?_
          refine jo ?_
          refine jDF ?_
          refine jB true ?_
          iterate 2 refine jo ?_
          refine je ?_
          refine WS.pret rfl ⟨.inr rfl, _, rfl, ?_⟩
          exact ⟨_, rfl, rfl⟩
        · rw [if_neg hk0] at hnx
          iterate 2 refine jq ?_
          refine jg ?_
          refine jo ?_
          refine jDF ?_
          iterate 2 refine jo ?_
          refine jDF ?_
          refine jo ?_
          refine je ?_
          refine WS.pcondF rfl rfl ?_
          refine WS.pskip rfl ?_
          refine jq ?_
          refine jg ?_
          refine jo ?_
          refine jc [0,1,2] NX (by simp [jOb]) (by simp [jEb, jOb, jMb, mapL_cellsR, okL_cellsR]) ?_; rintro _ _ ⟨rfl, rfl⟩ -; simp only [jPg, jMb, ll, Nat.reduceAdd, Nat.reduceLT, Nat.zero_add, if_true, if_false, Nat.reduceSub, reduceIte, mapL_cellsR, Nat.lt_irrefl, Nat.not_lt_zero, Nat.zero_lt_succ, Nat.lt_add_one]
          iterate 5 refine jo ?_
          refine je ?_
          refine jq ?_
          refine jg ?_
          refine jo ?_
          refine jB true ?_
          iterate 2 refine jo ?_
          refine jB true ?_
          iterate 4 refine jo ?_
          refine jW ?_
          refine jDT ?_
          iterate 3 refine jo ?_
          refine jDT ?_
          refine jo ?_
          refine jDT ?_
          refine jB true ?_
          iterate 2 refine jo ?_
          refine je ?_
          refine WS.pret rfl ⟨.inr rfl, _, rfl, ?_⟩
          exact ⟨_, rfl, rfl⟩
  · rw [if_neg hin] at A
    refine FM.pbody (tb := tb) (fn := Try.f5) rfl rfl ?_
    simp only [argS, Nat.reduceAdd, List.length_cons, List.length_nil]
    refine jq ?_
    refine jg ?_
    refine jo ?_
    refine je ?_
    iterate 2 refine jq ?_
    refine jg ?_
    refine jc [] AW (by simp [jOb]) (by simp [jEb, jOb, jMb, mapL_cellsR, okL_cellsR]) ?_; rintro _ _ ⟨rfl, rfl⟩ -; simp only [jPg, jMb, ll, Nat.reduceAdd, Nat.reduceLT, Nat.zero_add, if_true, if_false, Nat.reduceSub, reduceIte, mapL_cellsR, Nat.lt_irrefl, Nat.not_lt_zero, Nat.zero_lt_succ, Nat.lt_add_one]
    refine jB false ?_
    refine je ?_
    refine WS.pcondF rfl rfl ?_
    refine WS.pskip rfl ?_
    iterate 2 refine jq ?_
    refine jg ?_
    refine jo ?_
    refine jDF ?_
    refine je ?_
    refine WS.pcondF rfl rfl ?_
    refine WS.pskip rfl ?_
    refine jq ?_
    refine jg ?_
    refine jc [] N (by simp [jOb]) (by simp [jEb, jOb, jMb, mapL_cellsR, okL_cellsR]) ?_; rintro _ _ ⟨rfl, rfl⟩ -; simp only [jPg, jMb, ll, Nat.reduceAdd, Nat.reduceLT, Nat.zero_add, if_true, if_false, Nat.reduceSub, reduceIte, mapL_cellsR, Nat.lt_irrefl, Nat.not_lt_zero, Nat.zero_lt_succ, Nat.lt_add_one]
    iterate 5 refine jo ?_
    refine je ?_
    iterate 2 refine jq ?_
    refine jg ?_
    refine jo ?_
    refine jB false ?_
    refine je ?_
    refine WS.pcondF rfl rfl ?_
    refine WS.pskip rfl ?_
    refine jq ?_
    refine jg ?_
    iterate 2 refine jo ?_
    refine jc [0,1,2] CU (by simp [jOb]) (by simp [jEb, jOb, jMb, mapL_cellsR, okL_cellsR]) ?_; rintro _ _ ⟨rfl, rfl⟩ -; simp only [jPg, jMb, ll, Nat.reduceAdd, Nat.reduceLT, Nat.zero_add, if_true, if_false, Nat.reduceSub, reduceIte, mapL_cellsR, Nat.lt_irrefl, Nat.not_lt_zero, Nat.zero_lt_succ, Nat.lt_add_one]
    refine je ?_
    refine jq ?_
    refine jg ?_
    iterate 2 refine jo ?_
    refine jc [] PG (by simp [jOb]) (by simp [jEb, jOb, jMb, mapL_cellsR, okL_cellsR]) ?_; rintro _ _ ⟨rfl, rfl⟩ -; simp only [jPg, jMb, ll, Nat.reduceAdd, Nat.reduceLT, Nat.zero_add, if_true, if_false, Nat.reduceSub, reduceIte, mapL_cellsR, Nat.lt_irrefl, Nat.not_lt_zero, Nat.zero_lt_succ, Nat.lt_add_one]
    refine jc [0,1,2,3] A (by simp [jOb]) (by simp [jEb, jOb, jMb, mapL_cellsR, okL_cellsR]) ?_; rintro _ _ ⟨rfl, rfl⟩ -; simp only [jPg, jMb, ll, Nat.reduceAdd, Nat.reduceLT, Nat.zero_add, if_true, if_false, Nat.reduceSub, reduceIte, mapL_cellsR, Nat.lt_irrefl, Nat.not_lt_zero, Nat.zero_lt_succ, Nat.lt_add_one]
    refine jo ?_
    refine je ?_
    refine jq ?_
    refine jg ?_
    refine jo ?_
    refine jc [0,1,2] ON (by simp [jOb]) (by simp [jEb, jOb, jMb, mapL_cellsR, okL_cellsR]) ?_; rintro _ _ ⟨rfl, rfl⟩ -; simp only [jPg, jMb, ll, Nat.reduceAdd, Nat.reduceLT, Nat.zero_add, if_true, if_false, Nat.reduceSub, reduceIte, mapL_cellsR, Nat.lt_irrefl, Nat.not_lt_zero, Nat.zero_lt_succ, Nat.lt_add_one]
    refine je ?_
    refine jq ?_
    refine jg ?_
    refine jo ?_
    refine jc [0,1,2] RD (by simp [jOb]) (by simp [jEb, jOb, jMb, mapL_cellsR, okL_cellsR]) ?_; rintro _ _ ⟨rfl, rfl⟩ -; simp only [jPg, jMb, ll, Nat.reduceAdd, Nat.reduceLT, Nat.zero_add, if_true, if_false, Nat.reduceSub, reduceIte, mapL_cellsR, Nat.lt_irrefl, Nat.not_lt_zero, Nat.zero_lt_succ, Nat.lt_add_one]
    iterate 5 refine jo ?_
    refine je ?_
    refine jq ?_
    refine jg ?_
    refine jo ?_
    refine je ?_
    refine jq ?_
    refine WS.pblock rfl ?_
    refine WS.ploopI (σ := Nat) (τ := Unit) (fun i => [(0, .i .u8 v), (1, .i .i64 st), (5, .p (some (2,0))), (6, .i .i64 0), (7, .i .i64 0), (8, .sl (some (3,0)) 68 68 true), (9, .i .i64 i)]) (fun _ => stM B G L) (fun i => i ≤ k * 4) (fun i => k * 4 - i)
      (fun _ => [(0, .i .u8 v), (1, .i .i64 st), (5, .p (some (2,0))), (6, .i .i64 0), (7, .i .i64 0), (8, .sl (some (3,0)) 68 68 true), (9, .i .i64 (k * 4 : Nat))]) (fun _ => stM B G L) (fun _ => True) 0 [0,1,2,4] 0 rfl (Nat.zero_le _) (jSb (by simp [jVb, jOb, jMb, mapL_cellsR, okL_cellsR, stM]) (by simp only [jSl, jOb, jMb, Nat.reduceAdd, Nat.reduceLT, stM] <;> exact jClo)) rfl ?_ ?_
    · intro i hi
      simp only [stM]
      by_cases hlt : i < k * 4
      · have hx := h1 i hlt
        iterate 2 refine jq ?_
        refine jg ?_
        iterate 3 refine jo ?_
        refine jDT ?_
        iterate 3 refine jo ?_
        refine jI ?_
        refine WS.po (tb := tb) rfl rfl rfl rfl (step_R rfl (evR_load rfl rfl rfl rfl (cellsI_get hx))) ?_
        refine jo ?_
        refine jDT ?_
        refine jo ?_
        refine je ?_
        refine WS.pcondT rfl rfl ?_
        refine WS.pskip rfl ?_
        refine WS.pblock rfl ?_
        refine jg ?_
        refine jo ?_
        refine jW ?_
        refine jo ?_
        refine je ?_
        refine WS.bend ?_
        refine WS.nil ?_
        exact ⟨i + 1, by omega, by omega, (jSn [0,1,2,3] (by simp [jVb, jOb, jMb, mapL_cellsR, okL_cellsR, stM]) (by simp only [jSl, jOb, jMb, Nat.reduceAdd, Nat.reduceLT, stM] <;> exact jClo))⟩
      · obtain rfl : i = k * 4 := by omega
        by_cases h68 : k * 4 < 68
        · have hx := h2 (k * 4) (by omega) h68
          have hne : ¬ (255 : Int) = v := by omega
          iterate 2 refine jq ?_
          refine jg ?_
          iterate 3 refine jo ?_
          refine jDT ?_
          iterate 3 refine jo ?_
          refine jI ?_
          refine WS.po (tb := tb) rfl rfl rfl rfl (step_R rfl (evR_load rfl rfl rfl rfl (cellsI_get hx))) ?_
          refine jo ?_
          refine jDF ?_
          refine jo ?_
          refine je ?_
          refine WS.pcondF rfl rfl ?_
          refine WS.pout rfl rfl ?_
          exact ⟨rfl, (), trivial, (jSn [0,1,2,3] (by simp [jVb, jOb, jMb, mapL_cellsR, okL_cellsR, stM]) (by simp only [jSl, jOb, jMb, Nat.reduceAdd, Nat.reduceLT, stM] <;> exact jClo))⟩
        · refine WS.pseq rfl ?_
          refine jq ?_
          refine jg ?_
          iterate 3 refine jo ?_
          refine jDF ?_
          refine jo ?_
          iterate 6 refine jN ?_
          refine jo ?_
          refine je ?_
          refine WS.pcondF rfl rfl ?_
          refine WS.pout rfl rfl ?_
          exact ⟨rfl, (), trivial, (jSn [0,1,2,3] (by simp [jVb, jOb, jMb, mapL_cellsR, okL_cellsR, stM]) (by simp only [jSl, jOb, jMb, Nat.reduceAdd, Nat.reduceLT, stM] <;> exact jClo))⟩
    · rintro _ -
      simp only [stM]
      iterate 2 refine jq ?_
      refine jg ?_
      iterate 2 refine jo ?_
      refine je ?_
      refine WS.pblock rfl ?_
      refine WS.ploopI (σ := Nat) (τ := Unit) (fun i => [(0, .i .u8 v), (1, .i .i64 st), (5, .p (some (2,0))), (6, .i .i64 0), (7, .i .i64 0), (8, .sl (some (3,0)) 68 68 true), (9, .i .i64 (k * 4 : Nat)), (10, .i .i64 i)]) (fun _ => stM B G L) (fun i => k * 4 ≤ i ∧ i ≤ 68) (fun i => 68 - i)
        (fun _ => [(0, .i .u8 v), (1, .i .i64 st), (5, .p (some (2,0))), (6, .i .i64 0), (7, .i .i64 0), (9, .i .i64 (k * 4 : Nat))]) (fun _ => stM B G L) (fun _ => True) 2 [0,1,2,3] (k * 4) rfl ⟨Nat.le_refl _, by omega⟩ (jSb (by simp [jVb, jOb, jMb, mapL_cellsR, okL_cellsR, stM]) (by simp only [jSl, jOb, jMb, Nat.reduceAdd, Nat.reduceLT, stM] <;> exact jClo)) rfl ?_ ?_
      · rintro i ⟨hi0, hi⟩
        simp only [stM]
        by_cases hlt : i < 68
        · have hx := h2 i hi0 hlt
          iterate 2 refine jq ?_
          refine jg ?_
          iterate 3 refine jo ?_
          refine jDT ?_
          refine je ?_
          refine WS.pcondT rfl rfl ?_
          refine WS.pskip rfl ?_
          refine jq ?_
          refine WS.pblock rfl ?_
          refine jq ?_
          refine jg ?_
          iterate 2 refine jo ?_
          refine jI ?_
          refine WS.po (tb := tb) rfl rfl rfl rfl (step_R rfl (evR_load rfl rfl rfl rfl (cellsI_get hx))) ?_
          refine jB false ?_
          refine je ?_
          refine WS.pcondF rfl rfl ?_
          refine WS.pskip rfl ?_
          refine jg ?_
          refine jo ?_
          refine jW ?_
          refine jo ?_
          refine je ?_
          refine WS.nil ?_
          exact ⟨i + 1, ⟨by omega, by omega⟩, by omega, (jSn [0,1,2,3] (by simp [jVb, jOb, jMb, mapL_cellsR, okL_cellsR, stM]) (by simp only [jSl, jOb, jMb, Nat.reduceAdd, Nat.reduceLT, stM] <;> exact jClo))⟩
        · obtain rfl : i = 68 := by omega
          iterate 2 refine jq ?_
          refine jg ?_
          iterate 3 refine jo ?_
          refine jB false ?_
          refine je ?_
          refine WS.pcondF rfl rfl ?_
          refine WS.pout rfl rfl ?_
          exact ⟨rfl, (), trivial, (jSn [0,1,2,3] (by simp [jVb, jOb, jMb, mapL_cellsR, okL_cellsR, stM]) (by simp only [jSl, jOb, jMb, Nat.reduceAdd, Nat.reduceLT, stM] <;> exact jClo))⟩
      · rintro _ -
        simp only [stM]
        have hks : k = 17 := by rw [hk, if_neg hin]
        by_cases hs0 : st < 0
        · refine WS.pseq rfl ?_
          refine jq ?_
          refine jg ?_
          refine jo ?_
          refine jDT ?_
          refine jo ?_
          iterate 2 refine jN ?_
          refine jo ?_
          refine je ?_
          refine WS.pcondT rfl rfl ?_
          refine jq ?_
          refine jg ?_
          refine jo ?_
          refine jB true ?_
          iterate 2 refine jo ?_
          refine jB true ?_
          iterate 3 refine jo ?_
          refine jDT ?_
          iterate 2 refine jo ?_
          refine je ?_
          refine WS.pret rfl ⟨.inr rfl, _, rfl, ?_⟩
          exact ⟨_, rfl, rfl⟩
        · refine WS.pseq rfl ?_
          refine jq ?_
          refine jg ?_
          refine jo ?_
          refine jDF ?_
          iterate 2 refine jo ?_
          refine jDT ?_
          refine jo ?_
          refine je ?_
          refine WS.pcondT rfl rfl ?_
          refine jq ?_
          refine jg ?_
          refine jo ?_
          refine jB true ?_
          iterate 2 refine jo ?_
          refine jB true ?_
          iterate 3 refine jo ?_
          refine jDT ?_
          iterate 2 refine jo ?_
          refine je ?_
          refine WS.pret rfl ⟨.inr rfl, _, rfl, ?_⟩
          exact ⟨_, rfl, rfl⟩
theorem steps_255 (st : Int) : FM Try.prog 5 [.i .u8 255, .i .i64 st] [] (fun u _ => u = .b true) := by
  have AW := awake_fm
  refine FM.pbody (tb := tb) (fn := Try.f5) rfl rfl ?_
  simp only [argS, Nat.reduceAdd, List.length_cons, List.length_nil]
  refine jq ?_
  refine jg ?_
  refine jo ?_
  refine je ?_
  iterate 2 refine jq ?_
  refine jg ?_
  refine jc [] AW (by simp [jOb]) (by simp [jEb, jOb, jMb, mapL_cellsR, okL_cellsR]) ?_; rintro _ _ ⟨rfl, rfl⟩ -; simp only [jPg, jMb, ll, Nat.reduceAdd, Nat.reduceLT, Nat.zero_add, if_true, if_false, Nat.reduceSub, reduceIte, mapL_cellsR, Nat.lt_irrefl, Nat.not_lt_zero, Nat.zero_lt_succ, Nat.lt_add_one]
  refine jB false ?_
  refine je ?_
  refine WS.pcondF rfl rfl ?_
  refine WS.pskip rfl ?_
  iterate 2 refine jq ?_
  refine jg ?_
  refine jo ?_
  refine jB true ?_
  refine je ?_
  refine WS.pcondT rfl rfl ?_
  refine jq ?_
  refine jg ?_
  refine jo ?_
  refine je ?_
  refine WS.pret rfl ⟨.inr rfl, _, rfl, ?_⟩
  exact ⟨_, rfl, rfl⟩
theorem steps_calls (v st : Int) (W : World) (w1 : (Lit.int .u8 v).wf = true) (w2 : (Lit.int .i64 st).wf = true) :
    Calls Try.prog 5 #[.int .u8 v, .int .i64 st] W (fun e w' => e = .returned (.bool true) ∧ Go.RowKit.Below W.heap.size W w') := by
  have b1 : 0 ≤ v ∧ v ≤ 255 := by simp only [Lit.wf, IntKind.min, IntKind.max, IntKind.signed, IntKind.bits, Bool.and_eq_true, decide_eq_true_eq, if_true, Bool.false_eq_true, if_false] at w1; omega
  have b2 : st ≤ 9223372036854775807 := by simp only [Lit.wf, IntKind.min, IntKind.max, IntKind.signed, IntKind.bits, Bool.and_eq_true, decide_eq_true_eq, if_true, Bool.false_eq_true, if_false] at w2; omega
  have key : FM Try.prog 5 [.i .u8 v, .i .i64 st] [] (fun u _ => u = .b true) := by
    by_cases h : v = 255
    · subst h; exact steps_255 st
    · exact steps_walk v st b1.1 (by omega) b2
  exact FM.top key ⟨trivial, trivial, trivial⟩ W
end Go.Proofs.Ytmkolibmadbenaa.Am

