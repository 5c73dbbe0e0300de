/- Functions of the flash, walked. Conditions: those of each theorem. -/
import Derived.Test.YtmkolibmadbenaaNd3
import Derived.Test.YtmkolibmadbenaaNd1b
import Derived.Test.YtmkolibmadbenaaNd4
import Derived.Test.YtmkolibmadbenaaNd5
import Derived.Test.YtmkolibmadbenaaNd6
namespace Go.Proofs.Ytmkolibmadbenaa.Am
open Go.Proofs
set_option maxRecDepth 1000000
set_option maxHeartbeats 4000000
set_option linter.unusedSimpArgs false
set_option linter.unusedVariables false
/-- 68 bytes of one kind. -/
def r68 (v : Int) : List Int := List.replicate 68 v
theorem page_walk (v : Int) : FM Try.prog 11 [.i .u8 v] [] (fun u M' => u = .sl (some (0,0)) 68 68 false ∧ M' = [some ⟨cellsR (rwI .u8) (r68 v), 5, true⟩]) := by
  obtain ⟨m, hm⟩ : ∃ m, m = 68 := ⟨_, rfl⟩
  have e68 : reps [V.i .u8 0] 68 = cellsR (rwI .u8) (List.replicate m 0) := by rw [hm]; exact repsI 68
  refine FM.pbody (tb := tb) (fn := Try.f11) rfl rfl ?_
  simp only [argS, Nat.reduceAdd, List.length_cons, List.length_nil]
  refine jq ?_
  refine jg ?_
  refine jo ?_
  refine je ?_
  refine jq ?_
  refine jg ?_
  refine jn ?_
  refine jo ?_
  refine je ?_
  iterate 2 refine jq ?_
  refine jg ?_
  refine jo ?_
  refine je ?_
  refine WS.pblock rfl ?_
  refine WS.ploopI (σ := Nat) (τ := Unit) (fun i => [(0, .i .u8 v), (3, .sl (some (0,0)) m m false), (4, .i .i64 i)]) (fun i => [some ⟨cellsR (rwI .u8) (over2 (List.replicate m 0) 0 (List.replicate i v)), 5, true⟩]) (fun i => i ≤ m) (fun i => m - i)
    (fun _ => [(3, .sl (some (0,0)) m m false)]) (fun _ => [some ⟨cellsR (rwI .u8) (List.replicate m v), 5, true⟩]) (fun _ => True) 0 [0] 0 rfl (Nat.zero_le _) (jSb (by simp [jVb, jOb, jMb, mapL_cellsR, okL_cellsR, List.replicate_zero, over2_nil, e68]) (by simp only [jSl, jOb, jMb, Nat.reduceAdd, Nat.reduceLT, List.replicate_zero, over2_nil, e68] <;> exact jClo)) rfl ?_ ?_
  · intro i hi
    have hl : (over2 (List.replicate m (0 : Int)) 0 (List.replicate i v)).length = m := (over2_len (by rw [List.length_replicate, List.length_replicate]; omega)).trans List.length_replicate
    by_cases hlt : i < m
    · have hs : (over2 (List.replicate m (0 : Int)) 0 (List.replicate i v)).set (0 + i) v = over2 (List.replicate m (0 : Int)) 0 (List.replicate (i + 1) v) := by
        have := over2_set (xs := List.replicate m (0 : Int)) (ys := List.replicate m v) (o := 0) (i := i) (y := v) (by rw [List.getElem?_replicate, if_pos hlt]) (by rw [List.length_replicate, List.length_replicate]; omega)
        rw [List.take_replicate, List.take_replicate, Nat.min_eq_left (by omega), Nat.min_eq_left (by omega)] at this
        exact this
      rw [Nat.zero_add] at hs
      have hst := (cellsI_set (k := .u8) (xs := over2 (List.replicate m (0 : Int)) 0 (List.replicate i v)) (x := v) (i := i) (by omega)).trans (congrArg _ hs)
      iterate 2 refine jq ?_
      refine jg ?_
      iterate 3 refine jo ?_
      refine jDT ?_
      refine je ?_
      refine WS.pcondT rfl rfl ?_
      refine WS.pskip rfl ?_
      refine jq ?_
      refine WS.pblock rfl ?_
      refine jg ?_
      iterate 3 refine jo ?_
      refine jI ?_
      refine WS.po0 (tb := tb) rfl rfl rfl rfl (step_H rfl rfl (evH_store rfl rfl rfl rfl rfl (Nat.zero_le _) rfl (by simp [vcells]) (by simp only [Bk_len, vcells, List.length_cons, List.length_nil, cellsI_len, cellsB_len, List.length_set, List.length_replicate, List.length_append, List.length_map, List.length_take, List.length_drop, hl]; omega))) ?_; rw [upd_mem _ rfl]; simp only [vcells, List.set_cons_zero, List.set_cons_succ, hst]; (try simp only [setL, List.set_cons_zero, List.set_cons_succ])
      refine je ?_
      refine jg ?_
      refine jo ?_
      refine jW ?_
      refine jo ?_
      refine je ?_
      refine WS.nil ?_
      exact ⟨i + 1, by omega, by omega, (jSn [0] (by simp [jVb, jOb, jMb, mapL_cellsR, okL_cellsR]) (by simp only [jSl, jOb, jMb, Nat.reduceAdd, Nat.reduceLT] <;> exact jClo))⟩
    · obtain rfl : m = i := by omega
      have e := over2_all (xs := List.replicate m (0 : Int)) (ys := List.replicate m v) (by simp)
      iterate 2 refine jq ?_
      refine jg ?_
      iterate 3 refine jo ?_
      refine jDF ?_
      refine je ?_
      refine WS.pcondF rfl rfl ?_
      refine WS.pout rfl rfl ?_
      exact ⟨rfl, (), trivial, (jSn [0] (by simp [jVb, jOb, jMb, mapL_cellsR, okL_cellsR, e]) (by simp only [jSl, jOb, jMb, Nat.reduceAdd, Nat.reduceLT, e] <;> exact jClo))⟩
  · rintro _ -
    refine jq ?_
    refine jg ?_
    iterate 2 refine jo ?_
    refine je ?_
    refine WS.pret rfl ⟨.inr rfl, _, rfl, ?_⟩
    exact ⟨_, rfl, by rw [hm], by rw [hm]; rfl⟩
theorem sevens_walk (x : NS) (page np k : Nat) (hp : (x.bk.length : Int) * x.p = (np : Int)) (hnp : np ≤ 10000) (hbk : x.bk.length ≤ 1000) (h : page < np) (ho : x.off = false) (hbs : x.bs.length = np * 68) (hr : x.rd ≤ 1000000) (hr0 : 0 ≤ x.rd) (hk : k ≤ 68)
    (hc : (x.bs.drop (page * 68)).take 68 = List.replicate k 7 ++ List.replicate (68 - k) 255) :
    FM Try.prog 32 [.p (some (2,0)), .i .i64 page] (ndM x) (fun v M' => v = .i .i64 k ∧ M' = ndM { x with rd := x.rd + 1 }) := by
  have R := read_ok x page np hp hnp hbk h ho hbs hr hr0
  rw [hc] at R
  obtain ⟨L, hL⟩ : ∃ L, L = List.replicate k (7 : Int) ++ List.replicate (68 - k) 255 := ⟨_, rfl⟩
  have hlen : L.length = 68 := by rw [hL, List.length_append, List.length_replicate, List.length_replicate]; omega
  have h1 : ∀ i, i < k → L[i]? = some 7 := fun i hi => by rw [hL, List.getElem?_append_left (by rw [List.length_replicate]; exact hi), List.getElem?_replicate, if_pos hi]
  have h2 : ∀ i, k ≤ i → i < 68 → L[i]? = some 255 := fun i hi hi2 => by rw [hL, List.getElem?_append_right (by rw [List.length_replicate]; exact hi), List.length_replicate, List.getElem?_replicate, if_pos (by omega)]
  rw [← hL] at R
  clear hL hc
  simp only [ndM, List.cons_append, List.nil_append] at R
  refine FM.pbodyV (tb := tb) (fn := Try.f32) rfl rfl ?_
  simp only [argS, Nat.reduceAdd, ndM, List.length_cons, List.length_nil]
  refine jq ?_
  refine jg ?_
  refine jo ?_
  refine je ?_
  refine jq ?_
  refine jg ?_
  iterate 2 refine jo ?_
  refine jc [0,1,2] R (by simp [jOb]) (by simp [jEb, jOb, jMb, mapL_cellsR, okL_cellsR]) ?_; rintro _ _ ⟨rfl, rfl⟩ -; simp only [jPg, jMb, ll, Nat.reduceAdd, Nat.reduceLT, Nat.zero_add, if_true, if_false, Nat.reduceSub, reduceIte, mapL_cellsR, Nat.lt_irrefl, Nat.not_lt_zero, Nat.zero_lt_succ, Nat.lt_add_one]
  iterate 5 refine jo ?_
  refine je ?_
  iterate 2 refine jq ?_
  refine jg ?_
  refine jo ?_
  refine jB false ?_
  iterate 3 refine jo ?_
  refine jB false ?_
  refine jo ?_
  refine je ?_
  refine WS.pcondF rfl rfl ?_
  refine WS.pskip rfl ?_
  refine jq ?_
  refine jg ?_
  refine jo ?_
  refine je ?_
  refine jq ?_
  refine WS.pblock rfl ?_
  refine WS.ploopI (σ := Nat) (τ := Unit) (fun i => [(5, .sl (some (3,0)) 68 68 true), (7, .i .i64 i)]) (fun _ => ndM { x with rd := x.rd + 1 } ++ [some ⟨cellsR (rwI .u8) L, 5, true⟩]) (fun i => i ≤ k) (fun i => k - i)
    (fun _ => [(5, .sl (some (3,0)) 68 68 true), (7, .i .i64 k)]) (fun _ => ndM { x with rd := x.rd + 1 } ++ [some ⟨cellsR (rwI .u8) L, 5, true⟩]) (fun _ => True) 0 [0,1,2,3] 0 rfl (Nat.zero_le _) (jSb (by simp [jVb, jOb, jMb, mapL_cellsR, okL_cellsR, ndM]) (by simp only [jSl, jOb, jMb, Nat.reduceAdd, Nat.reduceLT, ndM] <;> exact jClo)) rfl ?_ ?_
  · intro i hi
    simp only [ndM, List.cons_append, List.nil_append]
    by_cases hlt : i < k
    · have hx := h1 i hlt
      iterate 2 refine jq ?_
      refine jg ?_
      iterate 3 refine jo ?_
      refine jDT ?_
      iterate 3 refine jo ?_
      refine jI ?_
      refine WS.po (tb := tb) rfl rfl rfl rfl (step_R rfl (evR_load rfl rfl rfl rfl (cellsI_get hx))) ?_
      refine jB true ?_
      refine jo ?_
      refine je ?_
      refine WS.pcondT rfl rfl ?_
      refine WS.pskip rfl ?_
      refine WS.pblock rfl ?_
      refine jg ?_
      refine jo ?_
      refine jW ?_
      refine jo ?_
      refine je ?_
      refine WS.bend ?_
      refine WS.nil ?_
      exact ⟨i + 1, by omega, by omega, (jSn [0,1,2,3] (by simp [jVb, jOb, jMb, mapL_cellsR, okL_cellsR, ndM]) (by simp only [jSl, jOb, jMb, Nat.reduceAdd, Nat.reduceLT, ndM] <;> exact jClo))⟩
    · obtain rfl : i = k := by omega
      by_cases h68 : i < 68
      · have hx := h2 i (by omega) h68
        iterate 2 refine jq ?_
        refine jg ?_
        iterate 3 refine jo ?_
        refine jDT ?_
        iterate 3 refine jo ?_
        refine jI ?_
        refine WS.po (tb := tb) rfl rfl rfl rfl (step_R rfl (evR_load rfl rfl rfl rfl (cellsI_get hx))) ?_
        refine jB false ?_
        refine jo ?_
        refine je ?_
        refine WS.pcondF rfl rfl ?_
        refine WS.pout rfl rfl ?_
        exact ⟨rfl, (), trivial, (jSn [0,1,2,3] (by simp [jVb, jOb, jMb, mapL_cellsR, okL_cellsR, ndM]) (by simp only [jSl, jOb, jMb, Nat.reduceAdd, Nat.reduceLT, ndM] <;> exact jClo))⟩
      · refine WS.pseq rfl ?_
        refine jq ?_
        refine jg ?_
        iterate 3 refine jo ?_
        refine jDF ?_
        refine jo ?_
        iterate 5 refine jN ?_
        refine jo ?_
        refine je ?_
        refine WS.pcondF rfl rfl ?_
        refine WS.pout rfl rfl ?_
        exact ⟨rfl, (), trivial, (jSn [0,1,2,3] (by simp [jVb, jOb, jMb, mapL_cellsR, okL_cellsR, ndM]) (by simp only [jSl, jOb, jMb, Nat.reduceAdd, Nat.reduceLT, ndM] <;> exact jClo))⟩
  · rintro _ -
    simp only [ndM, List.cons_append, List.nil_append]
    iterate 2 refine jq ?_
    refine jg ?_
    iterate 2 refine jo ?_
    refine je ?_
    refine WS.pblock rfl ?_
    refine WS.ploopI (σ := Nat) (τ := Unit) (fun i => [(5, .sl (some (3,0)) 68 68 true), (7, .i .i64 k), (8, .i .i64 i)]) (fun _ => ndM { x with rd := x.rd + 1 } ++ [some ⟨cellsR (rwI .u8) L, 5, true⟩]) (fun i => k ≤ i ∧ i ≤ 68) (fun i => 68 - i)
      (fun _ => [(7, .i .i64 k)]) (fun _ => ndM { x with rd := x.rd + 1 }) (fun _ => True) 2 [0,1,2,3] k rfl ⟨Nat.le_refl _, hk⟩ (jSb (by simp [jVb, jOb, jMb, mapL_cellsR, okL_cellsR, ndM]) (by simp only [jSl, jOb, jMb, Nat.reduceAdd, Nat.reduceLT, ndM] <;> exact jClo)) rfl ?_ ?_
    · rintro i ⟨hi0, hi⟩
      simp only [ndM, List.cons_append, List.nil_append]
      by_cases hlt : i < 68
      · have hx := h2 i hi0 hlt
        iterate 2 refine jq ?_
        refine jg ?_
        iterate 3 refine jo ?_
        refine jDT ?_
        refine je ?_
        refine WS.pcondT rfl rfl ?_
        refine WS.pskip rfl ?_
        refine jq ?_
        refine WS.pblock rfl ?_
        refine jq ?_
        refine jg ?_
        iterate 2 refine jo ?_
        refine jI ?_
        refine WS.po (tb := tb) rfl rfl rfl rfl (step_R rfl (evR_load rfl rfl rfl rfl (cellsI_get hx))) ?_
        refine jB false ?_
        refine je ?_
        refine WS.pcondF rfl rfl ?_
        refine WS.pskip rfl ?_
        refine jg ?_
        refine jo ?_
        refine jW ?_
        refine jo ?_
        refine je ?_
        refine WS.nil ?_
        exact ⟨i + 1, ⟨by omega, by omega⟩, by omega, (jSn [0,1,2,3] (by simp [jVb, jOb, jMb, mapL_cellsR, okL_cellsR, ndM]) (by simp only [jSl, jOb, jMb, Nat.reduceAdd, Nat.reduceLT, ndM] <;> exact jClo))⟩
      · obtain rfl : i = 68 := by omega
        iterate 2 refine jq ?_
        refine jg ?_
        iterate 3 refine jo ?_
        refine jB false ?_
        refine je ?_
        refine WS.pcondF rfl rfl ?_
        refine WS.pout rfl rfl ?_
        exact ⟨rfl, (), trivial, (jSn [0,1,2] (by simp [jVb, jOb, jMb, mapL_cellsR, okL_cellsR, ndM]) (by simp only [jSl, jOb, jMb, Nat.reduceAdd, Nat.reduceLT, ndM] <;> exact jClo))⟩
    · rintro _ -
      simp only [ndM]
      refine jq ?_
      refine jg ?_
      iterate 2 refine jo ?_
      refine je ?_
      refine WS.pret rfl ⟨.inr rfl, _, rfl, ?_⟩
      exact ⟨_, rfl, [0,1,2], ndM { x with rd := x.rd + 1 }, .i .i64 k, ⟨rfl, rfl, (by simp [jVb, jOb, jMb, mapL_cellsR, okL_cellsR, ndM]), rfl⟩, rfl, trivial, rfl, rfl⟩
end Go.Proofs.Ytmkolibmadbenaa.Am

