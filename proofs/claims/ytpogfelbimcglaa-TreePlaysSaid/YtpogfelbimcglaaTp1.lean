/- Functions of the tree and of the law TreePlays, walked. Conditions: those of each theorem. -/
import Derived.Test.YtpogfelbimcglaaTs0
namespace Go.Proofs.Ytpogfelbimcglaa.Am
open Go.Proofs
set_option maxRecDepth 1000000
set_option maxHeartbeats 4000000
set_option linter.unusedSimpArgs false
set_option linter.unusedVariables false
def vwM (V : List Vw) : List (Option Blk) := [some ⟨cellsR rwVw V, 54, false⟩]
theorem views_ids : ∀ T : Tr, (viewsT T).map Vw.id = T.ids.map fun (j : Nat) => (j : Int)
  | .lf => rfl
  | .nd id l x y z r => by simp only [viewsT, ids_nd, List.map_append, List.map_cons, views_ids l, views_ids r]
theorem views_id_ne {l : Tr} {id : Nat} (h : id ∉ l.ids) {v : Vw} (hv : v ∈ viewsT l) : ¬ v.id = (id : Int) := fun e => by
  have : v.id ∈ (viewsT l).map Vw.id := List.mem_map.2 ⟨v, hv, rfl⟩
  rw [views_ids, List.mem_map] at this
  obtain ⟨j, hj, e2⟩ := this
  have : j = id := by omega
  exact h (this ▸ hj)
theorem id_mem : ∀ T : Tr, T ≠ .lf → T.id ∈ T.ids
  | .lf, h => absurd rfl h
  | .nd id l a b c r, _ => by simp [ids_nd, Tr.id]
theorem ht_pos : ∀ T : Tr, T ≠ .lf → 0 < T.ht
  | .lf, h => absurd rfl h
  | .nd id l a b c r, _ => by simp only [Tr.ht]; omega
theorem hangs_walk : ∀ (T : Tr) (pre post : List Vw) (q : Bool), T ≠ .lf → T.ids.Nodup → (∀ j, j ∈ T.ids → 0 < j) → Avl T → pre.length + T.ids.length + post.length ≤ 600 →
    FM Try.prog 35 [.sl (some (0,0)) (pre ++ viewsT T ++ post).length (pre ++ viewsT T ++ post).length q, .i .i64 pre.length, .i .i64 ((pre.length + T.ids.length : Nat) : Int), .i .u32 T.id] (vwM (pre ++ viewsT T ++ post)) (fun v M' => v = .i .i64 T.ht ∧ M' = vwM (pre ++ viewsT T ++ post)) := by
  intro T
  induction T with
  | lf => intro _ _ _ h; exact absurd rfl h
  | nd id l a b c r ihl ihr =>
    intro pre post q _ hd hp hA hn
    have hd' := hd
    simp only [ids_nd, List.nodup_append, List.nodup_cons, List.mem_cons, ne_eq] at hd'
    obtain ⟨dl, ⟨dir, dr⟩, d5⟩ := hd'
    have dil : id ∉ l.ids := fun e => (d5 id e id (by simp)) rfl
    have hid : 0 < id := hp id (by simp [ids_nd])
    obtain ⟨b1, b2, hAl, hAr⟩ := hA
    have hlen : (Tr.nd id l a b c r).ids.length = l.ids.length + 1 + r.ids.length := by simp only [ids_nd, List.length_append, List.length_cons]; omega
    rw [hlen] at hn ⊢
    obtain ⟨w, hw⟩ : ∃ w : Vw, w = ⟨id, l.id, r.id, 1 + ((max l.ht r.ht : Nat) : Int), a, b, c⟩ := ⟨_, rfl⟩
    have eV : pre ++ viewsT (.nd id l a b c r) ++ post = pre ++ viewsT l ++ (w :: (viewsT r ++ post)) := by simp [viewsT, hw]
    have eV2 : pre ++ viewsT (.nd id l a b c r) ++ post = (pre ++ viewsT l ++ [w]) ++ viewsT r ++ post := by simp [viewsT, hw]
    have IL := fun h : l ≠ .lf => ihl pre (w :: (viewsT r ++ post)) q h dl (fun j hj => hp j (by simp [ids_nd, hj])) hAl (by simp only [List.length_cons, List.length_append, viewsT_len]; omega)
    have IR := fun h : r ≠ .lf => ihr (pre ++ viewsT l ++ [w]) post q h dr (fun j hj => hp j (by simp [ids_nd, hj])) hAr (by simp only [List.length_cons, List.length_append, viewsT_len, List.length_nil]; omega)
    rw [← eV] at IL
    rw [← eV2] at IR
    have e3 : (pre ++ viewsT l ++ [w]).length = pre.length + l.ids.length + 1 := by simp [viewsT_len]; omega
    rw [e3] at IR
    have hroot : (pre ++ viewsT (.nd id l a b c r) ++ post)[pre.length + l.ids.length]? = some w := by
      rw [eV, List.getElem?_append_right (by simp [viewsT_len])]; simp [viewsT_len]
    have hleft : ∀ i, pre.length ≤ i → i < pre.length + l.ids.length → ∃ v, (pre ++ viewsT (.nd id l a b c r) ++ post)[i]? = some v ∧ ¬ v.id = (id : Int) := fun i h1 h2 => by
      have hil : i - pre.length < (viewsT l).length := by rw [viewsT_len]; omega
      refine ⟨(viewsT l)[i - pre.length], ?_, views_id_ne dil (List.getElem_mem _)⟩
      rw [eV, List.append_assoc, List.getElem?_append_right h1, List.getElem?_append_left hil]
      exact List.getElem?_eq_getElem hil
    have hVl : (pre ++ viewsT (.nd id l a b c r) ++ post).length = pre.length + l.ids.length + 1 + r.ids.length + post.length := by rw [eV]; simp [viewsT_len]; omega
    have hht : (Tr.nd id l a b c r).ht = 1 + max l.ht r.ht := rfl
    have hb1 := ht_le l
    have hb2 := ht_le r
    have f1 : w.id = (id : Int) := by rw [hw]
    have f2 : w.l = (l.id : Int) := by rw [hw]
    have f3 : w.r = (r.id : Int) := by rw [hw]
    have f4 : w.h = 1 + ((max l.ht r.ht : Nat) : Int) := by rw [hw]
    clear hw
    rw [hht]
    simp only [id_nd]
    generalize pre ++ viewsT (.nd id l a b c r) ++ post = V at *
    obtain ⟨i0, hi0⟩ : ∃ m, m = pre.length + l.ids.length := ⟨_, rfl⟩
    obtain ⟨K, hK⟩ : ∃ m, m = pre.length + (l.ids.length + 1 + r.ids.length) := ⟨_, rfl⟩
    have e4 : ((pre.length + l.ids.length + 1 : Nat) : Int) = (i0 : Int) + 1 := by omega
    have e5 : ((pre.length + l.ids.length + 1 + r.ids.length : Nat) : Int) = (K : Int) := by omega
    rw [e4, e5, ← f3] at IR
    rw [← hi0, ← f2] at IL
    rw [← hi0] at hroot hleft
    rw [← hK]
    have pl : l ≠ .lf → 0 < l.ids.length ∧ 0 < l.ht ∧ 0 < l.id := fun h => ⟨List.length_pos_of_mem (id_mem l h), ht_pos l h, hp _ (by simp [ids_nd, id_mem l h])⟩
    have pr : r ≠ .lf → 0 < r.ids.length ∧ 0 < r.ht ∧ 0 < r.id := fun h => ⟨List.length_pos_of_mem (id_mem r h), ht_pos r h, hp _ (by simp [ids_nd, id_mem r h])⟩
    refine FM.pbody (tb := tb) (fn := Try.f35) rfl rfl ?_
    simp only [argS, Nat.reduceAdd, vwM, List.length_cons, List.length_nil]
    refine jq ?_
    refine jg ?_
    refine jo ?_
    refine je ?_
    iterate 2 refine jq ?_
    refine jg ?_
    iterate 2 refine jo ?_
    refine je ?_
    refine WS.pblock rfl ?_
    refine WS.ploopI (σ := Nat) (τ := Unit) (fun i => [(0, .sl (some (0,0)) V.length V.length q), (1, .i .i64 pre.length), (2, .i .i64 K), (3, .i .u32 id), (9, .i .i64 i)]) (fun _ => vwM V) (fun i => pre.length ≤ i ∧ i ≤ i0) (fun i => i0 - i)
      (fun _ => []) (fun _ => vwM V) (fun _ => False) 0 [0] pre.length rfl ⟨Nat.le_refl _, by omega⟩ (jSb (by simp [jVb, jOb, jMb, mapL_cellsR, okL_cellsR, vwM]) (by simp only [jSl, jOb, jMb, Nat.reduceAdd, Nat.reduceLT, vwM] <;> exact jClo)) rfl ?_ ?_
    · rintro i ⟨hi1, hi2⟩
      simp only [vwM]
      by_cases hlt : i < i0
      · obtain ⟨v, hv, hne⟩ := hleft i hi1 hlt
        iterate 2 refine jq ?_
        refine jg ?_
        iterate 2 refine jo ?_
        refine jDT ?_
        refine je ?_
        refine WS.pcondT rfl rfl ?_
        refine WS.pskip rfl ?_
        refine jq ?_
        refine WS.pblock rfl ?_
        iterate 2 refine jq ?_
        refine jg ?_
        iterate 2 refine jo ?_
        refine jI ?_
        refine jP ?_
        refine WS.po (tb := tb) rfl rfl rfl rfl (step_R rfl (evR_load rfl rfl rfl rfl (cellsR_get0 hv rfl))) ?_
        refine jo ?_
        refine jNT ?_
        refine je ?_
        refine WS.pcondT rfl rfl ?_
        refine WS.pexit rfl rfl ?_
        refine jg ?_
        refine jo ?_
        refine jW ?_
        refine jo ?_
        refine je ?_
        refine WS.nil ?_
        exact ⟨i + 1, ⟨by omega, by omega⟩, by omega, (jSn [0] (by simp [jVb, jOb, jMb, mapL_cellsR, okL_cellsR, vwM]) (by simp only [jSl, jOb, jMb, Nat.reduceAdd, Nat.reduceLT, vwM] <;> exact jClo))⟩
      · obtain rfl : i = i0 := by omega
        by_cases hl : l = .lf
        · have l1 : l.ids.length = 0 := by rw [hl]; rfl
          have l2 : l.ht = 0 := by rw [hl]; rfl
          have l3 : l.id = 0 := by rw [hl]; rfl
          by_cases hr : r = .lf
          · have r1 : r.ids.length = 0 := by rw [hr]; rfl
            have r2 : r.ht = 0 := by rw [hr]; rfl
            have r3 : r.id = 0 := by rw [hr]; rfl
            iterate 2 refine jq ?_
            refine jg ?_
            iterate 2 refine jo ?_
            refine jDT ?_
            refine je ?_
            refine WS.pcondT rfl rfl ?_
            refine WS.pskip rfl ?_
            refine jq ?_
            refine WS.pblock rfl ?_
            iterate 2 refine jq ?_
            refine jg ?_
            iterate 2 refine jo ?_
            refine jI ?_
            refine jP ?_
            refine WS.po (tb := tb) rfl rfl rfl rfl (step_R rfl (evR_load rfl rfl rfl rfl (cellsR_get0 hroot rfl))) ?_
            refine jo ?_
            refine jNF ?_
            refine je ?_
            refine WS.pcondF rfl rfl ?_
            refine WS.pskip rfl ?_
            refine jq ?_
            refine jg ?_
            refine jo ?_
            refine je ?_
            refine jq ?_
            refine jg ?_
            refine jo ?_
            refine je ?_
            iterate 2 refine jq ?_
            refine jg ?_
            iterate 2 refine jo ?_
            refine jDF ?_
            refine je ?_
            refine WS.pcondF rfl rfl ?_
            refine WS.pskip rfl ?_
            iterate 2 refine jq ?_
            refine jg ?_
            iterate 2 refine jo ?_
            refine jW ?_
            refine jDF ?_
            refine je ?_
            refine WS.pcondF rfl rfl ?_
            refine WS.pskip rfl ?_
            iterate 2 refine jq ?_
            refine jg ?_
            iterate 2 refine jo ?_
            refine jDF ?_
            iterate 2 refine jo ?_
            refine jI ?_
            refine jP ?_
            refine WS.po (tb := tb) rfl rfl rfl rfl (step_R rfl (evR_load rfl rfl rfl rfl (cellsR_get hroot rfl))) ?_
            refine jNF ?_
            refine jB false ?_
            iterate 3 refine jo ?_
            refine jW ?_
            refine jDF ?_
            iterate 2 refine jo ?_
            refine jI ?_
            refine jP ?_
            refine WS.po (tb := tb) rfl rfl rfl rfl (step_R rfl (evR_load rfl rfl rfl rfl (cellsR_get hroot rfl))) ?_
            refine jNF ?_
            refine jB false ?_
            iterate 4 refine jo ?_
            refine jDF ?_
            refine jo ?_
            iterate 2 refine jN ?_
            iterate 5 refine jo ?_
            refine jW ?_
            refine jDF ?_
            refine jo ?_
            iterate 2 refine jN ?_
            iterate 2 refine jo ?_
            refine je ?_
            refine WS.pcondF rfl rfl ?_
            refine WS.pskip rfl ?_
            refine jq ?_
            refine jg ?_
            iterate 2 refine jo ?_
            refine je ?_
            iterate 2 refine jq ?_
            refine jg ?_
            iterate 2 refine jo ?_
            refine jB false ?_
            refine je ?_
            refine WS.pcondF rfl rfl ?_
            refine WS.pskip rfl ?_
            iterate 2 refine jq ?_
            refine jg ?_
            iterate 2 refine jo ?_
            refine jW ?_
            refine jB false ?_
            iterate 3 refine jo ?_
            refine jW ?_
            refine jB false ?_
            iterate 4 refine jo ?_
            refine jI ?_
            refine jP ?_
            refine WS.po (tb := tb) rfl rfl rfl rfl (step_R rfl (evR_load rfl rfl rfl rfl (cellsR_get hroot rfl))) ?_
            refine jo ?_
            refine jW ?_
            refine jNF ?_
            refine jo ?_
            refine je ?_
            refine WS.pcondF rfl rfl ?_
            refine WS.pskip rfl ?_
            refine jq ?_
            refine jg ?_
            refine jo ?_
            refine jW ?_
            refine jo ?_
            refine je ?_
            refine WS.pret rfl ?_
            exact ⟨by simp, _, rfl, _, rfl, by congr 1; omega, by simp [vwM]⟩
          · obtain ⟨r1, r2, r3⟩ := pr hr
            have I2 := IR hr
            iterate 2 refine jq ?_
            refine jg ?_
            iterate 2 refine jo ?_
            refine jDT ?_
            refine je ?_
            refine WS.pcondT rfl rfl ?_
            refine WS.pskip rfl ?_
            refine jq ?_
            refine WS.pblock rfl ?_
            iterate 2 refine jq ?_
            refine jg ?_
            iterate 2 refine jo ?_
            refine jI ?_
            refine jP ?_
            refine WS.po (tb := tb) rfl rfl rfl rfl (step_R rfl (evR_load rfl rfl rfl rfl (cellsR_get0 hroot rfl))) ?_
            refine jo ?_
            refine jNF ?_
            refine je ?_
            refine WS.pcondF rfl rfl ?_
            refine WS.pskip rfl ?_
            refine jq ?_
            refine jg ?_
            refine jo ?_
            refine je ?_
            refine jq ?_
            refine jg ?_
            refine jo ?_
            refine je ?_
            iterate 2 refine jq ?_
            refine jg ?_
            iterate 2 refine jo ?_
            refine jDF ?_
            refine je ?_
            refine WS.pcondF rfl rfl ?_
            refine WS.pskip rfl ?_
            iterate 2 refine jq ?_
            refine jg ?_
            iterate 2 refine jo ?_
            refine jW ?_
            refine jDT ?_
            refine je ?_
            refine WS.pcondT rfl rfl ?_
            refine jg ?_
            iterate 2 refine jo ?_
            refine jW ?_
            iterate 3 refine jo ?_
            refine jI ?_
            refine jP ?_
            refine WS.po (tb := tb) rfl rfl rfl rfl (step_R rfl (evR_load rfl rfl rfl rfl (cellsR_get hroot rfl))) ?_
            refine jc [0] I2 (by simp [jOb, vwM]) (by simp [jEb, jOb, jMb, mapL_cellsR, okL_cellsR, vwM]) ?_; rintro _ _ ⟨rfl, rfl⟩ -; simp only [jPg, jMb, ll, Nat.reduceAdd, Nat.reduceLT, Nat.zero_add, if_true, if_false, Nat.reduceSub, reduceIte, mapL_cellsR, Nat.lt_irrefl, Nat.not_lt_zero, Nat.zero_lt_succ, Nat.lt_add_one, vwM]
            refine jo ?_
            refine je ?_
            iterate 2 refine jq ?_
            refine jg ?_
            iterate 2 refine jo ?_
            refine jDF ?_
            iterate 2 refine jo ?_
            refine jI ?_
            refine jP ?_
            refine WS.po (tb := tb) rfl rfl rfl rfl (step_R rfl (evR_load rfl rfl rfl rfl (cellsR_get hroot rfl))) ?_
            refine jNF ?_
            refine jB false ?_
            iterate 3 refine jo ?_
            refine jW ?_
            refine jDT ?_
            iterate 2 refine jo ?_
            refine jI ?_
            refine jP ?_
            refine WS.po (tb := tb) rfl rfl rfl rfl (step_R rfl (evR_load rfl rfl rfl rfl (cellsR_get hroot rfl))) ?_
            refine jNT ?_
            refine jB false ?_
            iterate 4 refine jo ?_
            refine jDF ?_
            refine jo ?_
            iterate 2 refine jN ?_
            iterate 5 refine jo ?_
            refine jW ?_
            refine jDT ?_
            iterate 2 refine jo ?_
            refine jDF ?_
            iterate 2 refine jo ?_
            refine je ?_
            refine WS.pcondF rfl rfl ?_
            refine WS.pskip rfl ?_
            refine jq ?_
            refine jg ?_
            iterate 2 refine jo ?_
            refine je ?_
            iterate 2 refine jq ?_
            refine jg ?_
            iterate 2 refine jo ?_
            refine jDT ?_
            refine je ?_
            refine WS.pcondT rfl rfl ?_
            refine jg ?_
            iterate 2 refine jo ?_
            refine je ?_
            iterate 2 refine jq ?_
            refine jg ?_
            iterate 2 refine jo ?_
            refine jW ?_
            refine jDF ?_
            iterate 3 refine jo ?_
            refine jW ?_
            refine jDF ?_
            iterate 4 refine jo ?_
            refine jI ?_
            refine jP ?_
            refine WS.po (tb := tb) rfl rfl rfl rfl (step_R rfl (evR_load rfl rfl rfl rfl (cellsR_get hroot rfl))) ?_
            refine jo ?_
            refine jW ?_
            refine jNF ?_
            refine jo ?_
            refine je ?_
            refine WS.pcondF rfl rfl ?_
            refine WS.pskip rfl ?_
            refine jq ?_
            refine jg ?_
            refine jo ?_
            refine jW ?_
            refine jo ?_
            refine je ?_
            refine WS.pret rfl ?_
            exact ⟨by simp, _, rfl, _, rfl, by congr 1; omega, by simp [vwM]⟩
        · obtain ⟨l1, l2, l3⟩ := pl hl
          have I1 := IL hl
          by_cases hr : r = .lf
          · have r1 : r.ids.length = 0 := by rw [hr]; rfl
            have r2 : r.ht = 0 := by rw [hr]; rfl
            have r3 : r.id = 0 := by rw [hr]; rfl
            iterate 2 refine jq ?_
            refine jg ?_
            iterate 2 refine jo ?_
            refine jDT ?_
            refine je ?_
            refine WS.pcondT rfl rfl ?_
            refine WS.pskip rfl ?_
            refine jq ?_
            refine WS.pblock rfl ?_
            iterate 2 refine jq ?_
            refine jg ?_
            iterate 2 refine jo ?_
            refine jI ?_
            refine jP ?_
            refine WS.po (tb := tb) rfl rfl rfl rfl (step_R rfl (evR_load rfl rfl rfl rfl (cellsR_get0 hroot rfl))) ?_
            refine jo ?_
            refine jNF ?_
            refine je ?_
            refine WS.pcondF rfl rfl ?_
            refine WS.pskip rfl ?_
            refine jq ?_
            refine jg ?_
            refine jo ?_
            refine je ?_
            refine jq ?_
            refine jg ?_
            refine jo ?_
            refine je ?_
            iterate 2 refine jq ?_
            refine jg ?_
            iterate 2 refine jo ?_
            refine jDT ?_
            refine je ?_
            refine WS.pcondT rfl rfl ?_
            refine jg ?_
            iterate 5 refine jo ?_
            refine jI ?_
            refine jP ?_
            refine WS.po (tb := tb) rfl rfl rfl rfl (step_R rfl (evR_load rfl rfl rfl rfl (cellsR_get hroot rfl))) ?_
            refine jc [0] I1 (by simp [jOb, vwM]) (by simp [jEb, jOb, jMb, mapL_cellsR, okL_cellsR, vwM]) ?_; rintro _ _ ⟨rfl, rfl⟩ -; simp only [jPg, jMb, ll, Nat.reduceAdd, Nat.reduceLT, Nat.zero_add, if_true, if_false, Nat.reduceSub, reduceIte, mapL_cellsR, Nat.lt_irrefl, Nat.not_lt_zero, Nat.zero_lt_succ, Nat.lt_add_one, vwM]
            refine jo ?_
            refine je ?_
            iterate 2 refine jq ?_
            refine jg ?_
            iterate 2 refine jo ?_
            refine jW ?_
            refine jDF ?_
            refine je ?_
            refine WS.pcondF rfl rfl ?_
            refine WS.pskip rfl ?_
            iterate 2 refine jq ?_
            refine jg ?_
            iterate 2 refine jo ?_
            refine jDT ?_
            iterate 2 refine jo ?_
            refine jI ?_
            refine jP ?_
            refine WS.po (tb := tb) rfl rfl rfl rfl (step_R rfl (evR_load rfl rfl rfl rfl (cellsR_get hroot rfl))) ?_
            refine jNT ?_
            refine jB false ?_
            iterate 3 refine jo ?_
            refine jW ?_
            refine jDF ?_
            iterate 2 refine jo ?_
            refine jI ?_
            refine jP ?_
            refine WS.po (tb := tb) rfl rfl rfl rfl (step_R rfl (evR_load rfl rfl rfl rfl (cellsR_get hroot rfl))) ?_
            refine jNF ?_
            refine jB false ?_
            iterate 4 refine jo ?_
            refine jDT ?_
            iterate 2 refine jo ?_
            refine jDF ?_
            iterate 5 refine jo ?_
            refine jW ?_
            refine jDF ?_
            refine jo ?_
            iterate 2 refine jN ?_
            iterate 2 refine jo ?_
            refine je ?_
            refine WS.pcondF rfl rfl ?_
            refine WS.pskip rfl ?_
            refine jq ?_
            refine jg ?_
            iterate 2 refine jo ?_
            refine je ?_
            iterate 2 refine jq ?_
            refine jg ?_
            iterate 2 refine jo ?_
            refine jB false ?_
            refine je ?_
            refine WS.pcondF rfl rfl ?_
            refine WS.pskip rfl ?_
            iterate 2 refine jq ?_
            refine jg ?_
            iterate 2 refine jo ?_
            refine jW ?_
            refine jDF ?_
            iterate 3 refine jo ?_
            refine jW ?_
            refine jDF ?_
            iterate 4 refine jo ?_
            refine jI ?_
            refine jP ?_
            refine WS.po (tb := tb) rfl rfl rfl rfl (step_R rfl (evR_load rfl rfl rfl rfl (cellsR_get hroot rfl))) ?_
            refine jo ?_
            refine jW ?_
            refine jNF ?_
            refine jo ?_
            refine je ?_
            refine WS.pcondF rfl rfl ?_
            refine WS.pskip rfl ?_
            refine jq ?_
            refine jg ?_
            refine jo ?_
            refine jW ?_
            refine jo ?_
            refine je ?_
            refine WS.pret rfl ?_
            exact ⟨by simp, _, rfl, _, rfl, by congr 1; omega, by simp [vwM]⟩
          · obtain ⟨r1, r2, r3⟩ := pr hr
            have I2 := IR hr
            by_cases hgt : (r.ht : Int) > l.ht
            · refine WS.pseq rfl ?_
              refine jq ?_
              refine jg ?_
              iterate 2 refine jo ?_
              refine jDT ?_
              refine je ?_
              refine WS.pcondT rfl rfl ?_
              refine WS.pskip rfl ?_
              refine jq ?_
              refine WS.pblock rfl ?_
              iterate 2 refine jq ?_
              refine jg ?_
              iterate 2 refine jo ?_
              refine jI ?_
              refine jP ?_
              refine WS.po (tb := tb) rfl rfl rfl rfl (step_R rfl (evR_load rfl rfl rfl rfl (cellsR_get0 hroot rfl))) ?_
              refine jo ?_
              refine jNF ?_
              refine je ?_
              refine WS.pcondF rfl rfl ?_
              refine WS.pskip rfl ?_
              refine jq ?_
              refine jg ?_
              refine jo ?_
              refine je ?_
              refine jq ?_
              refine jg ?_
              refine jo ?_
              refine je ?_
              iterate 2 refine jq ?_
              refine jg ?_
              iterate 2 refine jo ?_
              refine jDT ?_
              refine je ?_
              refine WS.pcondT rfl rfl ?_
              refine jg ?_
              iterate 5 refine jo ?_
              refine jI ?_
              refine jP ?_
              refine WS.po (tb := tb) rfl rfl rfl rfl (step_R rfl (evR_load rfl rfl rfl rfl (cellsR_get hroot rfl))) ?_
              refine jc [0] I1 (by simp [jOb, vwM]) (by simp [jEb, jOb, jMb, mapL_cellsR, okL_cellsR, vwM]) ?_; rintro _ _ ⟨rfl, rfl⟩ -; simp only [jPg, jMb, ll, Nat.reduceAdd, Nat.reduceLT, Nat.zero_add, if_true, if_false, Nat.reduceSub, reduceIte, mapL_cellsR, Nat.lt_irrefl, Nat.not_lt_zero, Nat.zero_lt_succ, Nat.lt_add_one, vwM]
              refine jo ?_
              refine je ?_
              iterate 2 refine jq ?_
              refine jg ?_
              iterate 2 refine jo ?_
              refine jW ?_
              refine jDT ?_
              refine je ?_
              refine WS.pcondT rfl rfl ?_
              refine jg ?_
              iterate 2 refine jo ?_
              refine jW ?_
              iterate 3 refine jo ?_
              refine jI ?_
              refine jP ?_
              refine WS.po (tb := tb) rfl rfl rfl rfl (step_R rfl (evR_load rfl rfl rfl rfl (cellsR_get hroot rfl))) ?_
              refine jc [0] I2 (by simp [jOb, vwM]) (by simp [jEb, jOb, jMb, mapL_cellsR, okL_cellsR, vwM]) ?_; rintro _ _ ⟨rfl, rfl⟩ -; simp only [jPg, jMb, ll, Nat.reduceAdd, Nat.reduceLT, Nat.zero_add, if_true, if_false, Nat.reduceSub, reduceIte, mapL_cellsR, Nat.lt_irrefl, Nat.not_lt_zero, Nat.zero_lt_succ, Nat.lt_add_one, vwM]
              refine jo ?_
              refine je ?_
              iterate 2 refine jq ?_
              refine jg ?_
              iterate 2 refine jo ?_
              refine jDT ?_
              iterate 2 refine jo ?_
              refine jI ?_
              refine jP ?_
              refine WS.po (tb := tb) rfl rfl rfl rfl (step_R rfl (evR_load rfl rfl rfl rfl (cellsR_get hroot rfl))) ?_
              refine jNT ?_
              refine jB false ?_
              iterate 3 refine jo ?_
              refine jW ?_
              refine jDT ?_
              iterate 2 refine jo ?_
              refine jI ?_
              refine jP ?_
              refine WS.po (tb := tb) rfl rfl rfl rfl (step_R rfl (evR_load rfl rfl rfl rfl (cellsR_get hroot rfl))) ?_
              refine jNT ?_
              refine jB false ?_
              iterate 4 refine jo ?_
              refine jDT ?_
              iterate 2 refine jo ?_
              refine jDF ?_
              iterate 5 refine jo ?_
              refine jW ?_
              refine jDT ?_
              iterate 2 refine jo ?_
              refine jDF ?_
              iterate 2 refine jo ?_
              refine je ?_
              refine WS.pcondF rfl rfl ?_
              refine WS.pskip rfl ?_
              refine jq ?_
              refine jg ?_
              iterate 2 refine jo ?_
              refine je ?_
              iterate 2 refine jq ?_
              refine jg ?_
              iterate 2 refine jo ?_
              refine jDT ?_
              refine je ?_
              refine WS.pcondT rfl rfl ?_
              refine jg ?_
              iterate 2 refine jo ?_
              refine je ?_
              iterate 2 refine jq ?_
              refine jg ?_
              iterate 2 refine jo ?_
              refine jW ?_
              refine jDF ?_
              iterate 3 refine jo ?_
              refine jW ?_
              refine jDF ?_
              iterate 4 refine jo ?_
              refine jI ?_
              refine jP ?_
              refine WS.po (tb := tb) rfl rfl rfl rfl (step_R rfl (evR_load rfl rfl rfl rfl (cellsR_get hroot rfl))) ?_
              refine jo ?_
              refine jW ?_
              refine jNF ?_
              refine jo ?_
              refine je ?_
              refine WS.pcondF rfl rfl ?_
              refine WS.pskip rfl ?_
              refine jq ?_
              refine jg ?_
              refine jo ?_
              refine jW ?_
              refine jo ?_
              refine je ?_
              refine WS.pret rfl ?_
              exact ⟨by simp, _, rfl, _, rfl, by congr 1; omega, by simp [vwM]⟩
            · refine WS.pseq rfl ?_
              refine jq ?_
              refine jg ?_
              iterate 2 refine jo ?_
              refine jDT ?_
              refine je ?_
              refine WS.pcondT rfl rfl ?_
              refine WS.pskip rfl ?_
              refine jq ?_
              refine WS.pblock rfl ?_
              iterate 2 refine jq ?_
              refine jg ?_
              iterate 2 refine jo ?_
              refine jI ?_
              refine jP ?_
              refine WS.po (tb := tb) rfl rfl rfl rfl (step_R rfl (evR_load rfl rfl rfl rfl (cellsR_get0 hroot rfl))) ?_
              refine jo ?_
              refine jNF ?_
              refine je ?_
              refine WS.pcondF rfl rfl ?_
              refine WS.pskip rfl ?_
              refine jq ?_
              refine jg ?_
              refine jo ?_
              refine je ?_
              refine jq ?_
              refine jg ?_
              refine jo ?_
              refine je ?_
              iterate 2 refine jq ?_
              refine jg ?_
              iterate 2 refine jo ?_
              refine jDT ?_
              refine je ?_
              refine WS.pcondT rfl rfl ?_
              refine jg ?_
              iterate 5 refine jo ?_
              refine jI ?_
              refine jP ?_
              refine WS.po (tb := tb) rfl rfl rfl rfl (step_R rfl (evR_load rfl rfl rfl rfl (cellsR_get hroot rfl))) ?_
              refine jc [0] I1 (by simp [jOb, vwM]) (by simp [jEb, jOb, jMb, mapL_cellsR, okL_cellsR, vwM]) ?_; rintro _ _ ⟨rfl, rfl⟩ -; simp only [jPg, jMb, ll, Nat.reduceAdd, Nat.reduceLT, Nat.zero_add, if_true, if_false, Nat.reduceSub, reduceIte, mapL_cellsR, Nat.lt_irrefl, Nat.not_lt_zero, Nat.zero_lt_succ, Nat.lt_add_one, vwM]
              refine jo ?_
              refine je ?_
              iterate 2 refine jq ?_
              refine jg ?_
              iterate 2 refine jo ?_
              refine jW ?_
              refine jDT ?_
              refine je ?_
              refine WS.pcondT rfl rfl ?_
              refine jg ?_
              iterate 2 refine jo ?_
              refine jW ?_
              iterate 3 refine jo ?_
              refine jI ?_
              refine jP ?_
              refine WS.po (tb := tb) rfl rfl rfl rfl (step_R rfl (evR_load rfl rfl rfl rfl (cellsR_get hroot rfl))) ?_
              refine jc [0] I2 (by simp [jOb, vwM]) (by simp [jEb, jOb, jMb, mapL_cellsR, okL_cellsR, vwM]) ?_; rintro _ _ ⟨rfl, rfl⟩ -; simp only [jPg, jMb, ll, Nat.reduceAdd, Nat.reduceLT, Nat.zero_add, if_true, if_false, Nat.reduceSub, reduceIte, mapL_cellsR, Nat.lt_irrefl, Nat.not_lt_zero, Nat.zero_lt_succ, Nat.lt_add_one, vwM]
              refine jo ?_
              refine je ?_
              iterate 2 refine jq ?_
              refine jg ?_
              iterate 2 refine jo ?_
              refine jDT ?_
              iterate 2 refine jo ?_
              refine jI ?_
              refine jP ?_
              refine WS.po (tb := tb) rfl rfl rfl rfl (step_R rfl (evR_load rfl rfl rfl rfl (cellsR_get hroot rfl))) ?_
              refine jNT ?_
              refine jB false ?_
              iterate 3 refine jo ?_
              refine jW ?_
              refine jDT ?_
              iterate 2 refine jo ?_
              refine jI ?_
              refine jP ?_
              refine WS.po (tb := tb) rfl rfl rfl rfl (step_R rfl (evR_load rfl rfl rfl rfl (cellsR_get hroot rfl))) ?_
              refine jNT ?_
              refine jB false ?_
              iterate 4 refine jo ?_
              refine jDT ?_
              iterate 2 refine jo ?_
              refine jDF ?_
              iterate 5 refine jo ?_
              refine jW ?_
              refine jDT ?_
              iterate 2 refine jo ?_
              refine jDF ?_
              iterate 2 refine jo ?_
              refine je ?_
              refine WS.pcondF rfl rfl ?_
              refine WS.pskip rfl ?_
              refine jq ?_
              refine jg ?_
              iterate 2 refine jo ?_
              refine je ?_
              iterate 2 refine jq ?_
              refine jg ?_
              iterate 2 refine jo ?_
              refine jDF ?_
              refine je ?_
              refine WS.pcondF rfl rfl ?_
              refine WS.pskip rfl ?_
              iterate 2 refine jq ?_
              refine jg ?_
              iterate 2 refine jo ?_
              refine jW ?_
              refine jDF ?_
              iterate 3 refine jo ?_
              refine jW ?_
              refine jDF ?_
              iterate 4 refine jo ?_
              refine jI ?_
              refine jP ?_
              refine WS.po (tb := tb) rfl rfl rfl rfl (step_R rfl (evR_load rfl rfl rfl rfl (cellsR_get hroot rfl))) ?_
              refine jo ?_
              refine jW ?_
              refine jNF ?_
              refine jo ?_
              refine je ?_
              refine WS.pcondF rfl rfl ?_
              refine WS.pskip rfl ?_
              refine jq ?_
              refine jg ?_
              refine jo ?_
              refine jW ?_
              refine jo ?_
              refine je ?_
              refine WS.pret rfl ?_
              exact ⟨by simp, _, rfl, _, rfl, by congr 1; omega, by simp [vwM]⟩
    · rintro _ h; exact h.elim
end Go.Proofs.Ytpogfelbimcglaa.Am

