/- Functions of the flash, walked. Conditions: those of each theorem. -/
import Derived.Test.YtmkolibmadbenaaAm5
import Derived.Test.YtmkolibmadbenaaNp6
namespace Go.Proofs.Ytmkolibmadbenaa.Am
open Go.Proofs
set_option maxRecDepth 1000000
set_option maxHeartbeats 4000000
set_option linter.unusedSimpArgs false
set_option linter.unusedVariables false
theorem pb_prog (b p np : Nat) (l : List Act) (c i : Nat) (x : NS) (op a short fill : Int) (H : InvP np l.length (i, x)) (hl : l.length ≤ 40) (hx : l[i]? = some ⟨op, a, short, fill⟩) (hg : goodA ⟨op, a, short, fill⟩) (ho : op = 0) :
    WS Try.prog (frameN Try.f4 3) 1 [.c (k1 (k1 (k2 (k1 (k2 (k2 (k2 (k2 (k2 (k2 (kb Try.f4)))))))))))] (slt (SSp b p l c (i, x))) (mem 0 (PM l x)) (PostP b p np l c (i, x)) := by
  have hi : i < l.length := (List.getElem?_eq_some_iff.1 hx).1
  obtain ⟨hle, H, hrd, hpr, her⟩ := H
  dsimp only at H hrd hpr her
  have hga := wf64 hg.2.1
  dsimp only at hga
  subst ho
  obtain ⟨n, hn⟩ : ∃ n, n = dlen short := ⟨_, rfl⟩
  have hn1 : 1 ≤ n ∧ n ≤ 200 := by rw [hn]; unfold dlen; split <;> omega
  have DW := data_walk 0 a short fill
  rw [← hn] at DW
  have hDl := dtL_len fill n
  have hDb := dtL_byt fill n
  generalize dtL fill n = D at *
  obtain ⟨H', K', q1, q2, q3⟩ := pgS_ok H a D (by omega)
  have P1 := program_any x np H a n (n + 1) true D [9] (.inr ⟨9, rfl⟩) hDl (by omega) (by omega)
  have P2 := rprogram_any x np H a n n false D hDl (by omega)
  have I := is_walk (pgS x np a D) np a H'
  generalize hy : pgS x np a D = y at *
  have hD9 : (D ++ [9]).length = n + 1 := by rw [List.length_append, hDl]; rfl
  have hm1 : n = D.length * (rwI .u8).z := by simp only [rwI]; omega
  have hm2 : n + 1 = (D ++ [9]).length * (rwI .u8).z := by simp only [rwI]; omega
  have hss : (!((strOf (D ++ [9])).toList == (strOf (D ++ [9])).toList)) = false := by simp
  simp only [isM, ndM, rfM, rfB, dtB, dtA, List.cons_append, List.nil_append] at I P1 P2
  simp only [SSp, PM, ndB, rfB, List.cons_append, List.nil_append]
  iterate 2 refine jq ?_
  refine jg ?_
  iterate 3 refine jo ?_
  refine jDT ?_
  refine je ?_
  refine WS.pcondT rfl rfl ?_
  refine WS.pskip rfl ?_
  refine jq ?_
  refine WS.pblock rfl ?_
  refine jq ?_
  refine jg ?_
  iterate 2 refine jo ?_
  refine jI ?_
  refine WS.poA (tb := tb) rfl rfl rfl rfl (step_R rfl (evR_loads rfl rfl rfl rfl rfl (by exact (cellsR_part0 (R := rwAct) hx (by exact Nat.le_of_ble_eq_true rfl))) (by exact rfl))) (by simp only [List.drop_zero, List.drop_succ_cons, List.take_succ_cons, List.take_zero, rwBk, rwAct]; exact rfl) ?_
  refine jn ?_
  refine js ?_
  refine je ?_
  iterate 2 refine jq ?_
  refine jg ?_
  refine jP ?_
  refine jo ?_
  refine je ?_
  refine WS.pblock rfl ?_
  refine jq ?_
  refine jg ?_
  refine jB true ?_
  refine jo ?_
  refine je ?_
  refine WS.pcondT rfl rfl ?_
  refine jq ?_
  refine jg ?_
  refine WS.poA (tb := tb) rfl rfl rfl rfl rfl (by simp only [List.drop_zero, List.drop_succ_cons, List.take_succ_cons, List.take_zero, rwBk, rwAct]; exact rfl) ?_
  refine jc [] DW (by simp [jOb]) (by simp [jEb, jOb, jMb, mapL_cellsR, okL_cellsR]) ?_; rintro _ _ ⟨rfl, rfl⟩ -; simp only [jPg, jMb, ll, Nat.reduceAdd, Nat.reduceLT, Nat.zero_add, if_true, if_false, Nat.reduceSub, reduceIte, mapL_cellsR, Nat.lt_irrefl, Nat.not_lt_zero, Nat.zero_lt_succ, Nat.lt_add_one]
  refine jo ?_
  refine je ?_
  refine jq ?_
  refine jg ?_
  refine jo ?_
  refine WS.po (tb := tb) rfl rfl rfl rfl (step_R rfl (evR_str rfl rfl rfl rfl rfl (cellsAt_row (R := rwI .u8) (xs := D) rfl hm1) (by first | exact rfl | (simp only [Bk_len, Act_len, vcells, List.length_cons, List.length_nil, cellsI_len, cellsB_len, List.length_set, List.length_replicate, List.length_append, List.length_map, List.length_take, List.length_drop, hDl, hD9]; omega) | omega))) ?_
  refine WS.po (tb := tb) rfl rfl rfl rfl (step_H rfl rfl (evH_bytes rfl rfl rfl rfl rfl rfl hDb hDl)) ?_; rw [new_mem]; simp only [ll, vcells, mem_next, Nat.zero_add, Nat.zero_mul, Nat.reduceAdd, reps, setL, Nat.reduceMul]
  refine jn ?_
  refine WS.po (tb := tb) rfl rfl rfl rfl (step_H rfl rfl (evH_append_open rfl rfl rfl rfl rfl rfl rfl rfl rfl (by omega) rfl (Nat.zero_le _) (by omega) (cellsAt_all rfl rfl) (by first | exact rfl | (simp only [Bk_len, Act_len, vcells, List.length_cons, List.length_nil, cellsI_len, cellsB_len, List.length_set, List.length_replicate, List.length_append, List.length_map, List.length_take, List.length_drop, hDl, hD9]; omega) | omega) (by first | exact rfl | (simp only [Bk_len, Act_len, vcells, List.length_cons, List.length_nil, cellsI_len, cellsB_len, List.length_set, List.length_replicate, List.length_append, List.length_map, List.length_take, List.length_drop, hDl, hD9]; omega) | omega) rfl (by omega))) ?_; (try rw [upd_mem _ rfl]); (try rw [new_mem]); (try simp only [List.set_cons_zero, List.set_cons_succ, List.cons_append, List.nil_append, mem_next, List.length_cons, List.length_nil, Nat.zero_add, Nat.reduceAdd, List.drop_zero, vcells, cellsI_app1, cellsB_app1, cellsI_cons, repsI, repsB, Bk_app1, Bk_reps, Act_app1, Act_reps])
  refine jo ?_
  refine je ?_
  refine jq ?_
  refine WS.pdrawE (tb := tb) [1,2,3,13] P1 (by exact rfl) (by kernel_rfl) rfl (by kernel_rfl) (by kernel_rfl) (by (try simp only [mapL, mapV, ll]) <;> exact rfl) (by simp [okL, okV]; fail_if_success exfalso) rfl (by simp [embP, okL, okV, mapL, mapV, mem_next, mem_get, mem_ro, mapL_cellsR, okL_cellsR]; fail_if_success exfalso) rfl ?_
  refine jp ?_
  refine jd ?_
  refine jr ?_
  iterate 3 refine jp ?_
  refine WD.pV (tb := tb) rfl rfl rfl rfl (evP_sliceO rfl rfl rfl rfl rfl rfl (by first | exact .inl ⟨rfl, rfl⟩ | exact .inr ⟨_, _, rfl, rfl⟩ | exact .inr ⟨_, _, rfl, by first | assumption | omega⟩ | exact .inr ⟨_, _, rfl, (Int.toNat_of_nonneg (by omega)).symm⟩) (by first | exact .inl ⟨rfl, rfl⟩ | exact .inr ⟨_, _, rfl, rfl⟩ | exact .inr ⟨_, _, rfl, by first | assumption | omega⟩ | exact .inr ⟨_, _, rfl, (Int.toNat_of_nonneg (by omega)).symm⟩) (by omega) (by omega) (by omega)) (by simp only [Int.toNat_natCast, Int.toNat_one, Int.toNat_zero, Int.reduceToNat, Nat.zero_mul, Nat.one_mul, Nat.sub_zero, Nat.add_sub_cancel, nl, nz, Nat.reduceAdd, Nat.reduceMul, Int.reduceToNat]; exact rfl) ?_
  refine WD.ecall (tb := tb) rfl rfl rfl rfl rfl rfl rfl rfl rfl ?_; simp only [jPg, jMb, ll, Nat.reduceAdd, Nat.reduceLT, Nat.zero_add, if_true, if_false, Nat.reduceSub, reduceIte, mapL_cellsR, Nat.lt_irrefl, Nat.not_lt_zero, Nat.zero_lt_succ, Nat.lt_add_one]
  refine jp ?_
  refine WD.fin rfl ?_
  refine jq ?_
  refine jg ?_
  iterate 2 refine jo ?_
  refine jP ?_
  iterate 2 refine jo ?_
  refine jc [4,5,6,7,8,10] P2 (by simp [jOb]) (by simp [jEb, jOb, jMb, mapL_cellsR, okL_cellsR]) ?_; rintro _ _ ⟨rfl, rfl⟩ -; simp only [jPg, jMb, ll, Nat.reduceAdd, Nat.reduceLT, Nat.zero_add, if_true, if_false, Nat.reduceSub, reduceIte, mapL_cellsR, Nat.lt_irrefl, Nat.not_lt_zero, Nat.zero_lt_succ, Nat.lt_add_one]
  refine jNF ?_
  iterate 2 refine jo ?_
  refine WS.po (tb := tb) rfl rfl rfl rfl (step_R rfl (evR_str rfl rfl rfl rfl rfl (cellsAt_row (R := rwI .u8) (xs := D ++ [9]) rfl hm2) (by first | exact rfl | (simp only [Bk_len, Act_len, vcells, List.length_cons, List.length_nil, cellsI_len, cellsB_len, List.length_set, List.length_replicate, List.length_append, List.length_map, List.length_take, List.length_drop, hDl, hD9]; omega) | omega))) ?_
  refine jo ?_
  refine WS.po (tb := tb) rfl rfl rfl rfl (step_R rfl (evR_str rfl rfl rfl rfl rfl (cellsAt_row (R := rwI .u8) (xs := D) rfl hm1) (by first | exact rfl | (simp only [Bk_len, Act_len, vcells, List.length_cons, List.length_nil, cellsI_len, cellsB_len, List.length_set, List.length_replicate, List.length_append, List.length_map, List.length_take, List.length_drop, hDl, hD9]; omega) | omega))) ?_
  refine WS.po (tb := tb) rfl rfl rfl rfl (step_P (evP_sadd rfl rfl rfl (show _ = strOf [9] from rfl) (by simp only [Bk_len, Act_len, vcells, List.length_cons, List.length_nil, cellsI_len, cellsB_len, List.length_set, List.length_replicate, List.length_append, List.length_map, List.length_take, List.length_drop, hDl, hD9]; omega))) ?_
  refine WS.poB (tb := tb) false rfl rfl rfl rfl rfl (by assumption) ?_
  refine jo ?_
  refine je ?_
  refine WS.pcondF rfl rfl ?_
  refine WS.pskip rfl ?_
  refine jq ?_
  refine jg ?_
  iterate 2 refine jo ?_
  refine jP ?_
  refine jo ?_
  refine jc [1,2,3,4,5,6,7,8] I (by simp [jOb]) (by simp [jEb, jOb, jMb, mapL_cellsR, okL_cellsR]) ?_; rintro _ _ ⟨rfl, rfl⟩ -; simp only [jPg, jMb, ll, Nat.reduceAdd, Nat.reduceLT, Nat.zero_add, if_true, if_false, Nat.reduceSub, reduceIte, mapL_cellsR, Nat.lt_irrefl, Nat.not_lt_zero, Nat.zero_lt_succ, Nat.lt_add_one]
  refine jB false ?_
  refine je ?_
  refine WS.pcondF rfl rfl ?_
  refine WS.pskip rfl ?_
  refine jg ?_
  refine jo ?_
  refine jW ?_
  refine jo ?_
  refine je ?_
  refine WS.nil ?_
  exact ⟨(i + 1, rdS y np a), inv_next a hi hl H' (by omega) (by omega) (by omega), by simp only; omega, (jSn [0,1,2,3,4,5,6,7,8] (by simp [jVb, jOb, jMb, mapL_cellsR, okL_cellsR, SSp, PM, ndB, rfB]) (by simp only [jSl, jOb, jMb, Nat.reduceAdd, Nat.reduceLT, SSp, PM, ndB, rfB] <;> exact jClo))⟩
end Go.Proofs.Ytmkolibmadbenaa.Am

