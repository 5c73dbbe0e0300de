/- Functions of the flash, walked. Conditions: those of each theorem. -/
import Derived.Test.YtmkolibmadbenaaAm5
import Derived.Test.YtmkolibmadbenaaNl3
namespace Go.Proofs.Ytmkolibmadbenaa.Am
open Go.Proofs
set_option maxRecDepth 1000000
set_option maxHeartbeats 4000000
set_option linter.unusedSimpArgs false
set_option linter.unusedVariables false
theorem ld_step (b p W n c sz : Nat) (q : Bool) (I : List Int) (h2 : b ≤ 64) (h3 : 1 ≤ p) (h4 : p ≤ 32) (hW : W ≤ 680000) (hbW : b * sz ≤ W) (hsz : sz = p * 68) (h : n = W + 2 * b) (hI : I.length = n) (hB : BytF I W) (j : Nat) (hj : j < b) (ok : okBk I p W j) : WS Try.prog (frameN Try.f28 3) 1 [.c (k1 (k1 (k2 (k1 (k2 (k2 (k2 (k2 (k2 (k2 (kb Try.f28)))))))))))] (slt (ldSl b p n c sz q j)) (mem 0 (ldM I b p W j)) (fun x t' h' => x = .n ∧ Seen 1 t' h' (ldSl b p n c sz q (j + 1)) (ldM I b p W (j + 1))) := by
  have hp1 : (j + 1) * sz ≤ b * sz := Nat.mul_le_mul hj (Nat.le_refl _)
  have hp2 : (j + 1) * sz = j * sz + sz := Nat.succ_mul _ _
  have ho : (j : Int) * sz = ((j * sz : Nat) : Int) := by push_cast; rfl
  have ho2 : ((j : Int) + 1) * sz = ((j * sz + sz : Nat) : Int) := by push_cast; rw [Int.add_mul, Int.one_mul]
  have ho3 : j * sz + sz ≤ W := by omega
  have g1 : I[W + 2 * j]? = some (fgI I W j) := getD_get (by omega)
  have hf := hB _ _ (by omega) g1
  have g2 : I[W + 2 * j + 1]? = some (nxI I W j) := getD_get (by omega)
  have hn := hB _ _ (by omega) g2
  obtain ⟨k1, k2, k3, k4⟩ := ok
  rw [← hsz] at k3 k4
  by_cases f0 : fgI I W j = 0
  · exact ld_ok0 b p W n c sz (j * sz) q I h2 h3 h4 hW hsz h hI hB j hj ho ho2 ho3 f0 k2 (k3 (by omega))
  · by_cases f1 : fgI I W j = 1
    · exact ld_ok1 b p W n c sz (j * sz) q I h2 h3 h4 hW hsz h hI hB j hj ho ho2 ho3 f1 k2 (k3 (by omega))
    · obtain ⟨k5, k6⟩ := k4 (by omega)
      by_cases f2 : fgI I W j = 2
      · exact ld_ok2 b p W n c sz (j * sz) q I h2 h3 h4 hW hsz h hI hB j hj ho ho2 ho3 f2 k5 k6
      · exact ld_ok3 b p W n c sz (j * sz) q I h2 h3 h4 hW hsz h hI hB j hj ho ho2 ho3 (by omega) k5 k6
theorem ld_stop (b p W n c sz : Nat) (q : Bool) (I : List Int) (h2 : b ≤ 64) (h3 : 1 ≤ p) (h4 : p ≤ 32) (hW : W ≤ 680000) (hbW : b * sz ≤ W) (hsz : sz = p * 68) (h : n = W + 2 * b) (hI : I.length = n) (hB : BytF I W) (j : Nat) (hj : j < b) (no : ¬ okBk I p W j) : WS Try.prog (frameN Try.f28 3) 1 [.c (k1 (k1 (k2 (k1 (k2 (k2 (k2 (k2 (k2 (k2 (kb Try.f28)))))))))))] (slt (ldSl b p n c sz q j)) (mem 0 (ldM I b p W j)) (LdQ I) := by
  have hp1 : (j + 1) * sz ≤ b * sz := Nat.mul_le_mul hj (Nat.le_refl _)
  have hp2 : (j + 1) * sz = j * sz + sz := Nat.succ_mul _ _
  have ho : (j : Int) * sz = ((j * sz : Nat) : Int) := by push_cast; rfl
  have ho2 : ((j : Int) + 1) * sz = ((j * sz + sz : Nat) : Int) := by push_cast; rw [Int.add_mul, Int.one_mul]
  have ho3 : j * sz + sz ≤ W := by omega
  have g1 : I[W + 2 * j]? = some (fgI I W j) := getD_get (by omega)
  have hf := hB _ _ (by omega) g1
  have g2 : I[W + 2 * j + 1]? = some (nxI I W j) := getD_get (by omega)
  have hn := hB _ _ (by omega) g2
  by_cases k1 : fgI I W j ≤ 3
  · by_cases k2 : nxI I W j ≤ p
    · by_cases f0 : fgI I W j = 0
      · refine ld_no0 b p W n c sz (j * sz) q I h2 h3 h4 hW hsz h hI hB j hj ho ho2 ho3 f0 k2 (Bool.eq_false_iff.2 fun e => no ⟨k1, k2, fun _ => ?_, fun h => by omega⟩)
        rw [← hsz]; exact e
      · by_cases f1 : fgI I W j = 1
        · refine ld_no1 b p W n c sz (j * sz) q I h2 h3 h4 hW hsz h hI hB j hj ho ho2 ho3 f1 k2 (Bool.eq_false_iff.2 fun e => no ⟨k1, k2, fun _ => ?_, fun h => by omega⟩)
          rw [← hsz]; exact e
        · by_cases k5 : nxI I W j = 0
          · have k6 : allB I (j * sz) sz 0 = false := Bool.eq_false_iff.2 fun e => no ⟨k1, k2, fun h => by omega, fun _ => ⟨k5, by rw [← hsz]; exact e⟩⟩
            by_cases f2 : fgI I W j = 2
            · exact ld_no2 b p W n c sz (j * sz) q I h2 h3 h4 hW hsz h hI hB j hj ho ho2 ho3 f2 k5 k6
            · exact ld_no3 b p W n c sz (j * sz) q I h2 h3 h4 hW hsz h hI hB j hj ho ho2 ho3 (by omega) k5 k6
          · by_cases f2 : fgI I W j = 2
            · exact ld_nx2 b p W n c sz (j * sz) q I h2 h3 h4 hW hsz h hI hB j hj ho ho2 ho3 f2 k2 k5
            · exact ld_nx3 b p W n c sz (j * sz) q I h2 h3 h4 hW hsz h hI hB j hj ho ho2 ho3 (by omega) k2 k5
    · exact ld_far b p W n c sz (j * sz) q I h2 h3 h4 hW hsz h hI hB j hj ho ho2 ho3 k1 k2
  · exact ld_big b p W n c sz (j * sz) q I h2 h3 h4 hW hsz h hI hB j hj ho ho2 ho3 k1
theorem load_ok (b p np W n c : Nat) (q : Bool) (I : List Int) (h1 : 1 ≤ b) (h2 : b ≤ 64) (h3 : 1 ≤ p) (h4 : p ≤ 32) (hp : (b : Int) * p = (np : Int)) (hnp : np ≤ 10000) (hW : W = np * 68) (h : n = W + 2 * b) (hI : I.length = n) (hB : BytF I W) (hok : ∀ k, k < b → okBk I p W k) :
    FM Try.prog 28 [.i .i64 b, .i .i64 p, .sl (some (0,0)) n c q] [some ⟨cellsR (rwI .u8) I, 5, false⟩] (fun v M' => v = .tup [.p (some (3,0)), .i .i64 0] ∧ M' = ldM I b p W b) := by
  obtain ⟨sz, hsz⟩ : ∃ sz, sz = p * 68 := ⟨_, rfl⟩
  have hbp : b * p = np := by exact_mod_cast hp
  have hbW : b * sz = W := by rw [hsz, ← Nat.mul_assoc, hbp, hW]
  have hnp0 : 1 ≤ np := by rw [← hbp]; exact Nat.mul_le_mul h1 h3
  have N := nnew_ok b p np h1 h2 h3 h4 hp hnp
  have hb0 := bkL_0 I W b
  have hst : setL (cellsR (rwI .u8) (List.replicate W 255)) 0 (cellsR (rwI .u8) ((I.drop 0).take W)) = cellsR (rwI .u8) (I.take W) := by
    rw [cellsI_over (by simp; omega), over2_all (by simp; omega), List.drop_zero]
  have hst2 : setL (cellsR (rwI .u8) (List.replicate W 255)) 0 (cellsR (rwI .u8) (I.take W)) = cellsR (rwI .u8) (I.take W) := by rw [List.drop_zero] at hst; exact hst
  have hs2 : (p : Int) * 68 = (sz : Int) := by omega
  simp only [ndM, ns0, List.length_replicate, ← hW] at N
  refine FM.pbody (tb := tb) (fn := Try.f28) rfl rfl ?_
  simp only [argS, Nat.reduceAdd, List.length_cons, List.length_nil]
  refine jq ?_
  refine jg ?_
  iterate 2 refine jo ?_
  refine je ?_
  refine jq ?_
  refine jg ?_
  iterate 2 refine jo ?_
  refine jc [] N (by simp [jOb]) (by simp [jEb, jOb, jMb, mapL_cellsR, okL_cellsR]) ?_; rintro _ _ ⟨rfl, rfl⟩ -; simp only [jPg, jMb, ll, Nat.reduceAdd, Nat.reduceLT, Nat.zero_add, if_true, if_false, Nat.reduceSub, reduceIte, mapL_cellsR, Nat.lt_irrefl, Nat.not_lt_zero, Nat.zero_lt_succ, Nat.lt_add_one]
  iterate 5 refine jo ?_
  refine je ?_
  iterate 2 refine jq ?_
  refine jg ?_
  refine jo ?_
  refine jB false ?_
  refine je ?_
  refine WS.pcondF rfl rfl ?_
  refine WS.pskip rfl ?_
  iterate 2 refine jq ?_
  refine jg ?_
  iterate 4 refine jo ?_
  refine jP ?_
  iterate 3 refine jo ?_
  iterate 2 refine jW ?_
  refine jNF ?_
  refine je ?_
  refine WS.pcondF rfl rfl ?_
  refine WS.pskip rfl ?_
  refine jq ?_
  refine jg ?_
  iterate 2 refine jo ?_
  refine jP ?_
  iterate 2 refine jo ?_
  refine WS.po (tb := tb) rfl rfl rfl rfl (step_H rfl rfl (evH_copyR rfl rfl rfl rfl rfl (by first | exact Nat.min_eq_left (by omega) | exact Nat.min_eq_right (by omega)) (by omega) (by omega) (cellsAt_part rfl (by omega)) rfl (Nat.zero_le _) (by first | rfl | exact allI _ _) (by first | exact rfl | (simp only [Bk_len, vcells, List.length_cons, List.length_nil, cellsI_len, cellsB_len, List.length_set, List.length_replicate, List.length_append, List.length_map, List.length_take, List.length_drop]; omega) | omega) (by first | exact rfl | (simp only [Bk_len, vcells, List.length_cons, List.length_nil, cellsI_len, cellsB_len, List.length_set, List.length_replicate, List.length_append, List.length_map, List.length_take, List.length_drop]; omega) | omega))) ?_; rw [upd_mem _ rfl]; simp only [vcells, List.set_cons_zero, List.set_cons_succ, hst]; (try simp only [setL, List.set_cons_zero, List.set_cons_succ])
  refine je ?_
  refine jq ?_
  refine jg ?_
  refine jo ?_
  refine WS.po (tb := tb) rfl rfl rfl rfl (step_P (evP_mulV rfl rfl rfl (by assumption) (by simp only [lo]; omega) (by simp only [Am.hi]; omega))) ?_
  refine jo ?_
  refine je ?_
  iterate 2 refine jq ?_
  refine jg ?_
  iterate 2 refine jo ?_
  refine jP ?_
  iterate 3 refine jo ?_
  refine je ?_
  refine WS.pblock rfl ?_
  refine WS.ploopI (σ := Nat) (τ := Unit) (ldSl b p n c sz q) (ldM I b p W) (fun j => j ≤ b) (fun j => b - j) (fun _ => [(8, .p (some (3,0)))]) (fun _ => ldM I b p W b) (fun _ => True) 0 [0,1,2,3] 0 rfl (Nat.zero_le _) (jSb (by simp [jVb, jOb, jMb, mapL_cellsR, okL_cellsR, ldSl, ldM, hb0, hst2]) (by simp only [jSl, jOb, jMb, Nat.reduceAdd, Nat.reduceLT, ldSl, ldM, hb0, hst2] <;> exact jClo)) rfl ?_ ?_
  · intro j hj
    by_cases hlt : j < b
    · refine WE.mono (fun x t' h' hq => ?_) (ld_step b p W n c sz q I h2 h3 h4 (by omega) (Nat.le_of_eq hbW) hsz h hI hB j hlt (hok j hlt))
      obtain ⟨rfl, hs⟩ := hq
      exact ⟨j + 1, hlt, by omega, hs⟩
    · obtain rfl : j = b := by omega
      simp only [ldSl, ldM]
      refine jq ?_
      refine jg ?_
      refine jDF ?_
      refine je ?_
      refine jq ?_
      refine WS.pcondF rfl rfl ?_
      refine WS.pout rfl rfl ?_
      exact ⟨rfl, (), trivial, (jSn [0,1,2,3] (by simp [jVb, jOb, jMb, mapL_cellsR, okL_cellsR, ldM]) (by simp only [jSl, jOb, jMb, Nat.reduceAdd, Nat.reduceLT, ldM] <;> exact jClo))⟩
  · rintro _ -
    simp only [ldM]
    refine jq ?_
    refine jg ?_
    iterate 3 refine jo ?_
    refine je ?_
    refine WS.pret rfl ⟨.inr rfl, _, rfl, ?_⟩
    exact ⟨_, rfl, rfl, rfl⟩
theorem load_bad (b p np W n c : Nat) (q : Bool) (I : List Int) (h1 : 1 ≤ b) (h2 : b ≤ 64) (h3 : 1 ≤ p) (h4 : p ≤ 32) (hp : (b : Int) * p = (np : Int)) (hnp : np ≤ 10000) (hW : W = np * 68) (h : n = W + 2 * b) (hI : I.length = n) (hB : BytF I W) (m : Nat) (hm : m < b) (hno : ¬ okBk I p W m) (hok : ∀ k, k < m → okBk I p W k) :
    FM Try.prog 28 [.i .i64 b, .i .i64 p, .sl (some (0,0)) n c q] [some ⟨cellsR (rwI .u8) I, 5, false⟩] (fun v M' => v = .tup [.p none, .i .i64 11] ∧ M' = [some ⟨cellsR (rwI .u8) I, 5, false⟩]) := by
  obtain ⟨sz, hsz⟩ : ∃ sz, sz = p * 68 := ⟨_, rfl⟩
  have hbp : b * p = np := by exact_mod_cast hp
  have hbW : b * sz = W := by rw [hsz, ← Nat.mul_assoc, hbp, hW]
  have hnp0 : 1 ≤ np := by rw [← hbp]; exact Nat.mul_le_mul h1 h3
  have N := nnew_ok b p np h1 h2 h3 h4 hp hnp
  have hb0 := bkL_0 I W b
  have hst : setL (cellsR (rwI .u8) (List.replicate W 255)) 0 (cellsR (rwI .u8) ((I.drop 0).take W)) = cellsR (rwI .u8) (I.take W) := by
    rw [cellsI_over (by simp; omega), over2_all (by simp; omega), List.drop_zero]
  have hst2 : setL (cellsR (rwI .u8) (List.replicate W 255)) 0 (cellsR (rwI .u8) (I.take W)) = cellsR (rwI .u8) (I.take W) := by rw [List.drop_zero] at hst; exact hst
  have hs2 : (p : Int) * 68 = (sz : Int) := by omega
  simp only [ndM, ns0, List.length_replicate, ← hW] at N
  refine FM.pbodyV (tb := tb) (fn := Try.f28) rfl rfl ?_
  simp only [argS, Nat.reduceAdd, List.length_cons, List.length_nil]
  refine jq ?_
  refine jg ?_
  iterate 2 refine jo ?_
  refine je ?_
  refine jq ?_
  refine jg ?_
  iterate 2 refine jo ?_
  refine jc [] N (by simp [jOb]) (by simp [jEb, jOb, jMb, mapL_cellsR, okL_cellsR]) ?_; rintro _ _ ⟨rfl, rfl⟩ -; simp only [jPg, jMb, ll, Nat.reduceAdd, Nat.reduceLT, Nat.zero_add, if_true, if_false, Nat.reduceSub, reduceIte, mapL_cellsR, Nat.lt_irrefl, Nat.not_lt_zero, Nat.zero_lt_succ, Nat.lt_add_one]
  iterate 5 refine jo ?_
  refine je ?_
  iterate 2 refine jq ?_
  refine jg ?_
  refine jo ?_
  refine jB false ?_
  refine je ?_
  refine WS.pcondF rfl rfl ?_
  refine WS.pskip rfl ?_
  iterate 2 refine jq ?_
  refine jg ?_
  iterate 4 refine jo ?_
  refine jP ?_
  iterate 3 refine jo ?_
  iterate 2 refine jW ?_
  refine jNF ?_
  refine je ?_
  refine WS.pcondF rfl rfl ?_
  refine WS.pskip rfl ?_
  refine jq ?_
  refine jg ?_
  iterate 2 refine jo ?_
  refine jP ?_
  iterate 2 refine jo ?_
  refine WS.po (tb := tb) rfl rfl rfl rfl (step_H rfl rfl (evH_copyR rfl rfl rfl rfl rfl (by first | exact Nat.min_eq_left (by omega) | exact Nat.min_eq_right (by omega)) (by omega) (by omega) (cellsAt_part rfl (by omega)) rfl (Nat.zero_le _) (by first | rfl | exact allI _ _) (by first | exact rfl | (simp only [Bk_len, vcells, List.length_cons, List.length_nil, cellsI_len, cellsB_len, List.length_set, List.length_replicate, List.length_append, List.length_map, List.length_take, List.length_drop]; omega) | omega) (by first | exact rfl | (simp only [Bk_len, vcells, List.length_cons, List.length_nil, cellsI_len, cellsB_len, List.length_set, List.length_replicate, List.length_append, List.length_map, List.length_take, List.length_drop]; omega) | omega))) ?_; rw [upd_mem _ rfl]; simp only [vcells, List.set_cons_zero, List.set_cons_succ, hst]; (try simp only [setL, List.set_cons_zero, List.set_cons_succ])
  refine je ?_
  refine jq ?_
  refine jg ?_
  refine jo ?_
  refine WS.po (tb := tb) rfl rfl rfl rfl (step_P (evP_mulV rfl rfl rfl (by assumption) (by simp only [lo]; omega) (by simp only [Am.hi]; omega))) ?_
  refine jo ?_
  refine je ?_
  iterate 2 refine jq ?_
  refine jg ?_
  iterate 2 refine jo ?_
  refine jP ?_
  iterate 3 refine jo ?_
  refine je ?_
  refine WS.pblock rfl ?_
  refine WS.ploopI (σ := Nat) (τ := Unit) (ldSl b p n c sz q) (ldM I b p W) (fun j => j ≤ m) (fun j => m + 1 - j) (fun _ => []) (fun _ => []) (fun _ => False) 0 [0,1,2,3] 0 rfl (Nat.zero_le _) (jSb (by simp [jVb, jOb, jMb, mapL_cellsR, okL_cellsR, ldSl, ldM, hb0, hst2]) (by simp only [jSl, jOb, jMb, Nat.reduceAdd, Nat.reduceLT, ldSl, ldM, hb0, hst2] <;> exact jClo)) rfl ?_ ?_
  · intro j hj
    by_cases hlt : j < m
    · refine WE.mono (fun x t' h' hq => ?_) (ld_step b p W n c sz q I h2 h3 h4 (by omega) (Nat.le_of_eq hbW) hsz h hI hB j (by omega) (hok j hlt))
      obtain ⟨rfl, hs⟩ := hq
      exact ⟨j + 1, hlt, by omega, hs⟩
    · obtain rfl : j = m := by omega
      refine WE.mono (fun x t' h' hq => ?_) (ld_stop b p W n c sz q I h2 h3 h4 (by omega) (Nat.le_of_eq hbW) hsz h hI hB j hm hno)
      cases x with
      | n => exact absurd hq.1 (by simp)
      | x i => exact absurd hq.1 (by simp)
      | r => exact ⟨.inr rfl, hq.2⟩
  · rintro _ h
    exact h.elim
end Go.Proofs.Ytmkolibmadbenaa.Am

