/- Functions of the pages, walked. Conditions: those of each theorem. -/
import Derived.Test.YtnogdgdkeojlpaaAm5
import Derived.Test.YtnogdgdkeojlpaaTg5
namespace Go.Proofs.Ytnogdgdkeojlpaa.Am
open Go.Proofs
set_option maxRecDepth 1000000
set_option maxHeartbeats 4000000
set_option linter.unusedSimpArgs false
set_option linter.unusedVariables false
def okH (J : List Int) : Prop := okK (J.getD 0 0) ∧ J.getD 1 0 = 0 ∧ J.getD 2 0 = 0 ∧ J.getD 3 0 = 0
open Classical in
/-- What is wrong with a page's bytes. -/
noncomputable def dErr (J : List Int) : Int := if ¬ J.length = 68 then 1 else if cleanB J = true then 4 else if ¬ J.drop 64 = [68, 79, 78, 69] then 9 else if ¬ ge4 J 60 = crcM 0 (J.take 60) then 10 else if ¬ okH J then 11 else 0
def pgZ : List V := pgV 0 0 0 0 0 0 0 (List.replicate 32 0)
def pgJ (J : List Int) : List V := pgV (J.getD 0 0) (ge4 J 4) (ge4 J 8) (ge4 J 12) (ge4 J 16) (ge4 J 20) (ge4 J 24) ((J.drop 28).take 32)
open Classical in
noncomputable def pgO (J : List Int) : List V := if dErr J = 0 then pgJ J else pgZ
theorem ge4_take {I : List Int} {n o : Nat} (h : o + 4 ≤ n) : ge4 (I.take n) o = ge4 I o := by
  unfold ge4
  have e : ∀ i, i < 4 → (I.take n).getD (o + i) 0 = I.getD (o + i) 0 := fun i hi => by
    rw [List.getD_eq_getElem?_getD, List.getD_eq_getElem?_getD, List.getElem?_take, if_pos (by omega)]
  simp only [geN, e 0 (by omega), e 1 (by omega), e 2 (by omega), e 3 (by omega)]
theorem mark_str (a : List Int) (ha : Byt a) : ((strOf a).toList != (strOf [68, 79, 78, 69]).toList) = !(a == [68, 79, 78, 69]) := by
  by_cases h : a = [68, 79, 78, 69]
  · subst h; rw [bne_self_eq_false, beq_self_eq_true]; rfl
  · have : ¬ (strOf a).toList = (strOf [68, 79, 78, 69]).toList := fun e => h (strOf_inj ha mark_byt e)
    have h2 : (a == [68, 79, 78, 69]) = false := by simpa using h
    rw [h2]; simpa using this
theorem take_at {I : List Int} {n i : Nat} (h : i < n) : (I.take n).getD i 0 = I.getD i 0 := by
  rw [List.getD_eq_getElem?_getD, List.getD_eq_getElem?_getD, List.getElem?_take, if_pos h]
theorem get_at {I : List Int} {i : Nat} (h : i < I.length) : I[i]? = some (I.getD i 0) := by
  rw [List.getD_eq_getElem?_getD, List.getElem?_eq_getElem h]; rfl

theorem okL_pgV (n : Nat) (k a b c d e f : Int) (P : List Int) : okL n (pgV k a b c d e f P) := by
  simp only [pgV, okL, okV, true_and]; exact okL_b32 n P

theorem dec_err_f (I : List Int) (n c : Nat) (er : Int) (hb : Byt I) (hcap : n ≤ c) (hn : n ≤ I.length) (hl : I.length ≤ 9223372036854775807) (he : dErr (I.take n) = er) (h0 : ¬ er = 0) :
    FM Try.prog 10 [.sl (some (0,0)) n c false] [some ⟨cellsR (rwI .u8) I, 5, false⟩] (fun v M' => v = .tup [.agg (pgO (I.take n)), .i .i64 er] ∧ M' = [some ⟨cellsR (rwI .u8) I, 5, false⟩]) := by
  have hO : pgO (I.take n) = pgZ := by unfold pgO; rw [if_neg (by rw [he]; exact h0)]
  rw [hO]
  have hJ : (I.take n).length = n := by rw [List.length_take]; omega
  have hz0 : setL ((V.i .i64 0 :: V.i .u32 0 :: V.i .u32 0 :: V.i .u32 0 :: V.i .u32 0 :: V.i .u32 0 :: V.i .u32 0 :: V.i .u8 0 :: V.i .u8 0 :: V.i .u8 0 :: V.i .u8 0 :: V.i .u8 0 :: V.i .u8 0 :: V.i .u8 0 :: V.i .u8 0 :: V.i .u8 0 :: V.i .u8 0 :: V.i .u8 0 :: V.i .u8 0 :: V.i .u8 0 :: V.i .u8 0 :: V.i .u8 0 :: V.i .u8 0 :: V.i .u8 0 :: V.i .u8 0 :: V.i .u8 0 :: V.i .u8 0 :: V.i .u8 0 :: V.i .u8 0 :: V.i .u8 0 :: V.i .u8 0 :: V.i .u8 0 :: V.i .u8 0 :: V.i .u8 0 :: V.i .u8 0 :: V.i .u8 0 :: V.i .u8 0 :: V.i .u8 0 :: V.i .u8 0 :: []) : List V) 0 (V.i .i64 0 :: V.i .u32 0 :: V.i .u32 0 :: V.i .u32 0 :: V.i .u32 0 :: V.i .u32 0 :: V.i .u32 0 :: V.i .u8 0 :: V.i .u8 0 :: V.i .u8 0 :: V.i .u8 0 :: V.i .u8 0 :: V.i .u8 0 :: V.i .u8 0 :: V.i .u8 0 :: V.i .u8 0 :: V.i .u8 0 :: V.i .u8 0 :: V.i .u8 0 :: V.i .u8 0 :: V.i .u8 0 :: V.i .u8 0 :: V.i .u8 0 :: V.i .u8 0 :: V.i .u8 0 :: V.i .u8 0 :: V.i .u8 0 :: V.i .u8 0 :: V.i .u8 0 :: V.i .u8 0 :: V.i .u8 0 :: V.i .u8 0 :: V.i .u8 0 :: V.i .u8 0 :: V.i .u8 0 :: V.i .u8 0 :: V.i .u8 0 :: V.i .u8 0 :: V.i .u8 0 :: []) = (V.i .i64 0 :: V.i .u32 0 :: V.i .u32 0 :: V.i .u32 0 :: V.i .u32 0 :: V.i .u32 0 :: V.i .u32 0 :: V.i .u8 0 :: V.i .u8 0 :: V.i .u8 0 :: V.i .u8 0 :: V.i .u8 0 :: V.i .u8 0 :: V.i .u8 0 :: V.i .u8 0 :: V.i .u8 0 :: V.i .u8 0 :: V.i .u8 0 :: V.i .u8 0 :: V.i .u8 0 :: V.i .u8 0 :: V.i .u8 0 :: V.i .u8 0 :: V.i .u8 0 :: V.i .u8 0 :: V.i .u8 0 :: V.i .u8 0 :: V.i .u8 0 :: V.i .u8 0 :: V.i .u8 0 :: V.i .u8 0 :: V.i .u8 0 :: V.i .u8 0 :: V.i .u8 0 :: V.i .u8 0 :: V.i .u8 0 :: V.i .u8 0 :: V.i .u8 0 :: V.i .u8 0 :: []) := setL_whole rfl
  by_cases hn68 : n = 68
  · subst hn68
    have C := clean_walk I 68 c false hb hn hl
    by_cases hc : cleanB (I.take 68) = true
    · rw [hc] at C
      have e : er = 4 := by rw [← he]; unfold dErr; rw [if_neg (by omega), if_pos hc]
      subst e
      refine FM.pbodyV (tb := tb) (fn := Try.f10) rfl rfl ?_
      simp only [argS, Nat.reduceAdd, List.length_cons, List.length_nil]
      refine jq ?_
      refine jg ?_
      refine jn ?_
      refine jo ?_
      refine je ?_
      refine jq ?_
      refine WS.pblock rfl ?_
      refine jq ?_
      refine jg ?_
      iterate 2 refine jo ?_
      refine jB false ?_
      refine jo ?_
      refine je ?_
      refine WS.pcondF rfl rfl ?_
      refine jq ?_
      refine jg ?_
      refine jo ?_
      refine jc [0] C (by simp [jOb]) (by simp [jEb, jOb, jMb, mapL_cellsR, okL_cellsR]) ?_; rintro _ _ ⟨rfl, rfl⟩ -; simp only [jPg, jMb, ll, Nat.reduceAdd, Nat.reduceLT, Nat.zero_add, if_true, if_false, Nat.reduceSub, reduceIte, mapL_cellsR, Nat.lt_irrefl, Nat.not_lt_zero, Nat.zero_lt_succ, Nat.lt_add_one]
      refine jo ?_
      refine je ?_
      refine WS.pcondT rfl rfl ?_
      refine jq ?_
      refine jg ?_
      refine WS.poA (tb := tb) rfl rfl rfl rfl rfl (by simp only [vcells, setL, ll, nl, nz, Nat.reduceAdd, Nat.reduceMul, Int.reduceToNat]; exact rfl) ?_
      refine WS.po0 (tb := tb) rfl rfl rfl rfl (step_H rfl rfl (evH_store rfl rfl rfl rfl rfl (Nat.zero_le _) rfl (by simp [vcells]) (Nat.le_of_ble_eq_true rfl))) ?_; rw [upd_mem _ rfl]; simp only [vcells, List.set_cons_zero, List.set_cons_succ, hz0]; (try simp only [setL, List.set_cons_zero, List.set_cons_succ])
      refine jo ?_
      refine je ?_
      refine WS.pret rfl ⟨.inr rfl, _, (resV2 (a := 2) (k := 3) (T := 30) (z := 39) rfl rfl rfl rfl rfl rfl), ?_⟩
      exact ⟨_, rfl, [0], [some ⟨cellsR (rwI .u8) I, 5, false⟩], .tup [.agg pgZ, .i .i64 4], ⟨rfl, rfl, (by simp [jVb, jOb, jMb, mapL_cellsR, okL_cellsR]), rfl⟩, rfl, ⟨okL_pgV _ _ _ _ _ _ _ _ _, trivial, trivial⟩, rfl, rfl⟩
    · have hc' : cleanB (I.take 68) = false := by simpa using hc
      rw [hc'] at C
      have hm : (I.take 68).drop 64 = (I.drop 64).take 4 := by rw [List.drop_take]
      have hbm : Byt ((I.drop 64).take 4) := fun x hx => hb x (List.mem_of_mem_drop (List.mem_of_mem_take hx))
      have hsm := mark_str _ hbm
      by_cases h9 : (I.drop 64).take 4 = [68, 79, 78, 69]
      · have G := get_walk I 60 8 (c - 60) false hb (by omega) (by omega) hl
        have SW := sum_walk I 60 c false hb (by omega) hl
        have h9' : ((I.drop 64).take 4 == [68, 79, 78, 69]) = true := by simpa using h9
        rw [h9'] at hsm
        have e60 : ge4 (I.take 68) 60 = ge4 I 60 := ge4_take (by omega)
        have s60 : (I.take 68).take 60 = I.take 60 := by rw [List.take_take]; rfl
        by_cases h10 : ge4 I 60 = crcM 0 (I.take 60)
        · have hx0 := get_at (I := I) (i := 0) (by omega)
          have hx1 := get_at (I := I) (i := 1) (by omega)
          have hx2 := get_at (I := I) (i := 2) (by omega)
          have hx3 := get_at (I := I) (i := 3) (by omega)
          have hH : ¬ okH (I.take 68) ∧ er = 11 := by
            rw [← he]; unfold dErr
            rw [if_neg (by omega), if_neg hc, if_neg (by rw [hm]; exact fun z => z h9), if_neg (by rw [e60, s60]; exact fun z => z h10)]
            by_cases hz : okH (I.take 68)
            · refine absurd ?_ h0
              rw [← he]; unfold dErr
              rw [if_neg (by omega), if_neg hc, if_neg (by rw [hm]; exact fun z => z h9), if_neg (by rw [e60, s60]; exact fun z => z h10), if_neg (by simpa using hz)]
            · exact ⟨hz, if_pos hz⟩
          obtain ⟨hH, e⟩ := hH
          subst e
          unfold okH at hH
          rw [take_at (by omega), take_at (by omega), take_at (by omega), take_at (by omega)] at hH
          have hb0 := hb _ (List.mem_of_getElem? hx0)
          generalize I.getD 0 0 = k at *
          generalize I.getD 1 0 = b1 at *
          generalize I.getD 2 0 = b2 at *
          generalize I.getD 3 0 = b3 at *
          generalize ge4 I 60 = g at *
          generalize crcM 0 (I.take 60) = s at *
          by_cases hk : okK k
          · have K := kind_yes k hk
            by_cases h1 : b1 = 0
            · by_cases h2 : b2 = 0
              · have h3 : ¬ b3 = 0 := fun e => hH ⟨hk, h1, h2, e⟩
                refine FM.pbodyV (tb := tb) (fn := Try.f10) rfl rfl ?_
                simp only [argS, Nat.reduceAdd, List.length_cons, List.length_nil]
                refine jq ?_
                refine jg ?_
                refine jn ?_
                refine jo ?_
                refine je ?_
                refine jq ?_
                refine WS.pblock rfl ?_
                refine jq ?_
                refine jg ?_
                iterate 2 refine jo ?_
                refine jB false ?_
                refine jo ?_
                refine je ?_
                refine WS.pcondF rfl rfl ?_
                refine jq ?_
                refine jg ?_
                refine jo ?_
                refine jc [0] C (by simp [jOb]) (by simp [jEb, jOb, jMb, mapL_cellsR, okL_cellsR]) ?_; rintro _ _ ⟨rfl, rfl⟩ -; simp only [jPg, jMb, ll, Nat.reduceAdd, Nat.reduceLT, Nat.zero_add, if_true, if_false, Nat.reduceSub, reduceIte, mapL_cellsR, Nat.lt_irrefl, Nat.not_lt_zero, Nat.zero_lt_succ, Nat.lt_add_one]
                refine jo ?_
                refine je ?_
                refine WS.pcondF rfl rfl ?_
                refine jq ?_
                refine jg ?_
                refine jo ?_
                refine WS.poV (tb := tb) rfl rfl rfl rfl (step_P (evP_sliceC (a := 64) rfl rfl rfl rfl rfl rfl (by first | exact .inl ⟨rfl, rfl⟩ | exact .inr ⟨_, _, rfl, rfl⟩ | exact .inr ⟨_, _, rfl, by first | assumption | omega⟩ | exact .inr ⟨_, _, rfl, (Int.toNat_of_nonneg (by omega)).symm⟩) (by first | exact .inl ⟨rfl, rfl⟩ | exact .inr ⟨_, _, rfl, rfl⟩ | exact .inr ⟨_, _, rfl, by first | assumption | omega⟩ | exact .inr ⟨_, _, rfl, (Int.toNat_of_nonneg (by omega)).symm⟩) (by omega) (by omega) (by omega))) (by simp only [Int.toNat_natCast, Int.toNat_one, Int.toNat_zero, Int.reduceToNat, Nat.zero_mul, Nat.one_mul, Nat.sub_zero, Nat.add_sub_cancel, nl, nz, Nat.reduceAdd, Nat.reduceMul, Int.reduceToNat]; exact rfl) ?_
                refine WS.po (tb := tb) rfl rfl rfl rfl (step_R rfl (evR_str rfl rfl rfl rfl rfl (cellsAt_part (o := 64) (m := 4) rfl (by omega)) (by first | exact rfl | (simp only [vcells, List.length_cons, List.length_nil, cellsI_len, cellsB_len, List.length_set, List.length_replicate, List.length_append, List.length_map, List.length_take, List.length_drop] <;> omega) | omega))) ?_
                refine WS.poB (tb := tb) false rfl rfl rfl rfl rfl (by assumption) ?_
                refine jo ?_
                refine je ?_
                refine WS.pcondF rfl rfl ?_
                refine jq ?_
                refine WS.pdrawX (tb := tb) (by kernel_rfl) rfl (by kernel_rfl) ?_; (try refine WZ.keep (l := 0) rfl ?_)
                refine WZ.p (tb := tb) rfl rfl rfl rfl rfl ?_
                refine WZ.pV (tb := tb) rfl rfl rfl rfl (evP_sliceC (a := 60) rfl rfl rfl rfl rfl rfl (by first | exact .inl ⟨rfl, rfl⟩ | exact .inr ⟨_, _, rfl, rfl⟩ | exact .inr ⟨_, _, rfl, by first | assumption | omega⟩ | exact .inr ⟨_, _, rfl, (Int.toNat_of_nonneg (by omega)).symm⟩) (by first | exact .inl ⟨rfl, rfl⟩ | exact .inr ⟨_, _, rfl, rfl⟩ | exact .inr ⟨_, _, rfl, by first | assumption | omega⟩ | exact .inr ⟨_, _, rfl, (Int.toNat_of_nonneg (by omega)).symm⟩) (by omega) (by omega) (by omega)) (by simp only [Int.toNat_natCast, Int.toNat_one, Int.toNat_zero, Int.reduceToNat, Nat.zero_mul, Nat.one_mul, Nat.sub_zero, Nat.add_sub_cancel, nl, nz, Nat.reduceAdd, Nat.reduceMul, Int.reduceToNat]; exact rfl) ?_
                refine WZ.callM (tb := tb) [0] G rfl rfl rfl rfl rfl rfl rfl rfl (by (try simp only [mapL, mapV, ll]) <;> exact rfl) (by simp [okL, okV]; fail_if_success exfalso) rfl (by simp [embP, okL, okV, mapL, mapV, mem_next, mem_get, mem_ro, mapL_cellsR, okL_cellsR]; fail_if_success exfalso) rfl rfl rfl (by repeat (first | exact trivial | refine ⟨rfl, ?_⟩)) ?_; simp only [jPg, jMb, ll, Nat.reduceAdd, Nat.reduceLT, Nat.zero_add, if_true, if_false, Nat.reduceSub, reduceIte, mapL_cellsR, Nat.lt_irrefl, Nat.not_lt_zero, Nat.zero_lt_succ, Nat.lt_add_one]
                refine WZ.p (tb := tb) rfl rfl rfl rfl rfl ?_
                refine WZ.pV (tb := tb) rfl rfl rfl rfl (evP_sliceC (b := 60) rfl rfl rfl rfl rfl rfl (by first | exact .inl ⟨rfl, rfl⟩ | exact .inr ⟨_, _, rfl, rfl⟩ | exact .inr ⟨_, _, rfl, by first | assumption | omega⟩ | exact .inr ⟨_, _, rfl, (Int.toNat_of_nonneg (by omega)).symm⟩) (by first | exact .inl ⟨rfl, rfl⟩ | exact .inr ⟨_, _, rfl, rfl⟩ | exact .inr ⟨_, _, rfl, by first | assumption | omega⟩ | exact .inr ⟨_, _, rfl, (Int.toNat_of_nonneg (by omega)).symm⟩) (by omega) (by omega) (by omega)) (by simp only [Int.toNat_natCast, Int.toNat_one, Int.toNat_zero, Int.reduceToNat, Nat.zero_mul, Nat.one_mul, Nat.sub_zero, Nat.add_sub_cancel, nl, nz, Nat.reduceAdd, Nat.reduceMul, Int.reduceToNat]; exact rfl) ?_
                refine WZ.callM (tb := tb) [0] SW rfl rfl rfl rfl rfl rfl rfl rfl (by (try simp only [mapL, mapV, ll]) <;> exact rfl) (by simp [okL, okV]; fail_if_success exfalso) rfl (by simp [embP, okL, okV, mapL, mapV, mem_next, mem_get, mem_ro, mapL_cellsR, okL_cellsR]; fail_if_success exfalso) rfl rfl rfl (by repeat (first | exact trivial | refine ⟨rfl, ?_⟩)) ?_; simp only [jPg, jMb, ll, Nat.reduceAdd, Nat.reduceLT, Nat.zero_add, if_true, if_false, Nat.reduceSub, reduceIte, mapL_cellsR, Nat.lt_irrefl, Nat.not_lt_zero, Nat.zero_lt_succ, Nat.lt_add_one]
                refine WZ.pNF (tb := tb) rfl rfl rfl rfl rfl (by omega) ?_
                refine WZ.p (tb := tb) rfl rfl rfl rfl rfl ?_
                refine WZ.fin rfl (by kernel_rfl) (by repeat (first | exact trivial | refine ⟨rfl, ?_⟩)) ?_
                refine WS.pcondF rfl rfl ?_
                refine jq ?_
                refine jg ?_
                refine jo ?_
                refine WS.poP (tb := tb) rfl rfl rfl rfl (step_P (evP_index rfl rfl rfl rfl rfl rfl (by simp only [vcells, List.length_cons, List.length_nil, cellsI_len, cellsB_len, List.length_set, List.length_replicate, List.length_append, List.length_map, List.length_take, List.length_drop]; omega))) (by simp only [Nat.zero_add, Nat.add_zero, Nat.reduceAdd, Nat.reduceMul, Nat.add_assoc, Nat.mul_one]; exact rfl) ?_
                refine WS.po (tb := tb) rfl rfl rfl rfl (step_R rfl (evR_load rfl rfl rfl rfl (cellsR_get0 hx0 rfl))) ?_
                refine jW ?_
                refine jc [] K (by simp [jOb]) (by simp [jEb, jOb, jMb, mapL_cellsR, okL_cellsR]) ?_; rintro _ _ ⟨rfl, rfl⟩ -; simp only [jPg, jMb, ll, Nat.reduceAdd, Nat.reduceLT, Nat.zero_add, if_true, if_false, Nat.reduceSub, reduceIte, mapL_cellsR, Nat.lt_irrefl, Nat.not_lt_zero, Nat.zero_lt_succ, Nat.lt_add_one]
                refine jB false ?_
                iterate 2 refine jo ?_
                refine WS.poP (tb := tb) rfl rfl rfl rfl (step_P (evP_index rfl rfl rfl rfl rfl rfl (by simp only [vcells, List.length_cons, List.length_nil, cellsI_len, cellsB_len, List.length_set, List.length_replicate, List.length_append, List.length_map, List.length_take, List.length_drop]; omega))) (by simp only [Nat.zero_add, Nat.add_zero, Nat.reduceAdd, Nat.reduceMul, Nat.add_assoc, Nat.mul_one]; exact rfl) ?_
                refine WS.po (tb := tb) rfl rfl rfl rfl (step_R rfl (evR_load rfl rfl rfl rfl (cellsR_get0 hx1 rfl))) ?_
                refine jNF ?_
                iterate 3 refine jo ?_
                refine WS.poP (tb := tb) rfl rfl rfl rfl (step_P (evP_index rfl rfl rfl rfl rfl rfl (by simp only [vcells, List.length_cons, List.length_nil, cellsI_len, cellsB_len, List.length_set, List.length_replicate, List.length_append, List.length_map, List.length_take, List.length_drop]; omega))) (by simp only [Nat.zero_add, Nat.add_zero, Nat.reduceAdd, Nat.reduceMul, Nat.add_assoc, Nat.mul_one]; exact rfl) ?_
                refine WS.po (tb := tb) rfl rfl rfl rfl (step_R rfl (evR_load rfl rfl rfl rfl (cellsR_get0 hx2 rfl))) ?_
                refine jNF ?_
                iterate 3 refine jo ?_
                refine WS.poP (tb := tb) rfl rfl rfl rfl (step_P (evP_index rfl rfl rfl rfl rfl rfl (by simp only [vcells, List.length_cons, List.length_nil, cellsI_len, cellsB_len, List.length_set, List.length_replicate, List.length_append, List.length_map, List.length_take, List.length_drop]; omega))) (by simp only [Nat.zero_add, Nat.add_zero, Nat.reduceAdd, Nat.reduceMul, Nat.add_assoc, Nat.mul_one]; exact rfl) ?_
                refine WS.po (tb := tb) rfl rfl rfl rfl (step_R rfl (evR_load rfl rfl rfl rfl (cellsR_get0 hx3 rfl))) ?_
                refine jNT ?_
                iterate 2 refine jo ?_
                refine je ?_
                refine WS.pcondT rfl rfl ?_
                refine jq ?_
                refine jg ?_
                refine WS.poA (tb := tb) rfl rfl rfl rfl rfl (by simp only [vcells, setL, ll, nl, nz, Nat.reduceAdd, Nat.reduceMul, Int.reduceToNat]; exact rfl) ?_
                refine WS.po0 (tb := tb) rfl rfl rfl rfl (step_H rfl rfl (evH_store rfl rfl rfl rfl rfl (Nat.zero_le _) rfl (by simp [vcells]) (Nat.le_of_ble_eq_true rfl))) ?_; rw [upd_mem _ rfl]; simp only [vcells, List.set_cons_zero, List.set_cons_succ, hz0]; (try simp only [setL, List.set_cons_zero, List.set_cons_succ])
                refine jo ?_
                refine je ?_
                refine WS.pret rfl ⟨.inr rfl, _, (resV2 (a := 2) (k := 3) (T := 30) (z := 39) rfl rfl rfl rfl rfl rfl), ?_⟩
                exact ⟨_, rfl, [0], [some ⟨cellsR (rwI .u8) I, 5, false⟩], .tup [.agg pgZ, .i .i64 11], ⟨rfl, rfl, (by simp [jVb, jOb, jMb, mapL_cellsR, okL_cellsR]), rfl⟩, rfl, ⟨okL_pgV _ _ _ _ _ _ _ _ _, trivial, trivial⟩, rfl, rfl⟩
              · skip
                refine FM.pbodyV (tb := tb) (fn := Try.f10) rfl rfl ?_
                simp only [argS, Nat.reduceAdd, List.length_cons, List.length_nil]
                refine jq ?_
                refine jg ?_
                refine jn ?_
                refine jo ?_
                refine je ?_
                refine jq ?_
                refine WS.pblock rfl ?_
                refine jq ?_
                refine jg ?_
                iterate 2 refine jo ?_
                refine jB false ?_
                refine jo ?_
                refine je ?_
                refine WS.pcondF rfl rfl ?_
                refine jq ?_
                refine jg ?_
                refine jo ?_
                refine jc [0] C (by simp [jOb]) (by simp [jEb, jOb, jMb, mapL_cellsR, okL_cellsR]) ?_; rintro _ _ ⟨rfl, rfl⟩ -; simp only [jPg, jMb, ll, Nat.reduceAdd, Nat.reduceLT, Nat.zero_add, if_true, if_false, Nat.reduceSub, reduceIte, mapL_cellsR, Nat.lt_irrefl, Nat.not_lt_zero, Nat.zero_lt_succ, Nat.lt_add_one]
                refine jo ?_
                refine je ?_
                refine WS.pcondF rfl rfl ?_
                refine jq ?_
                refine jg ?_
                refine jo ?_
                refine WS.poV (tb := tb) rfl rfl rfl rfl (step_P (evP_sliceC (a := 64) rfl rfl rfl rfl rfl rfl (by first | exact .inl ⟨rfl, rfl⟩ | exact .inr ⟨_, _, rfl, rfl⟩ | exact .inr ⟨_, _, rfl, by first | assumption | omega⟩ | exact .inr ⟨_, _, rfl, (Int.toNat_of_nonneg (by omega)).symm⟩) (by first | exact .inl ⟨rfl, rfl⟩ | exact .inr ⟨_, _, rfl, rfl⟩ | exact .inr ⟨_, _, rfl, by first | assumption | omega⟩ | exact .inr ⟨_, _, rfl, (Int.toNat_of_nonneg (by omega)).symm⟩) (by omega) (by omega) (by omega))) (by simp only [Int.toNat_natCast, Int.toNat_one, Int.toNat_zero, Int.reduceToNat, Nat.zero_mul, Nat.one_mul, Nat.sub_zero, Nat.add_sub_cancel, nl, nz, Nat.reduceAdd, Nat.reduceMul, Int.reduceToNat]; exact rfl) ?_
                refine WS.po (tb := tb) rfl rfl rfl rfl (step_R rfl (evR_str rfl rfl rfl rfl rfl (cellsAt_part (o := 64) (m := 4) rfl (by omega)) (by first | exact rfl | (simp only [vcells, List.length_cons, List.length_nil, cellsI_len, cellsB_len, List.length_set, List.length_replicate, List.length_append, List.length_map, List.length_take, List.length_drop] <;> omega) | omega))) ?_
                refine WS.poB (tb := tb) false rfl rfl rfl rfl rfl (by assumption) ?_
                refine jo ?_
                refine je ?_
                refine WS.pcondF rfl rfl ?_
                refine jq ?_
                refine WS.pdrawX (tb := tb) (by kernel_rfl) rfl (by kernel_rfl) ?_; (try refine WZ.keep (l := 0) rfl ?_)
                refine WZ.p (tb := tb) rfl rfl rfl rfl rfl ?_
                refine WZ.pV (tb := tb) rfl rfl rfl rfl (evP_sliceC (a := 60) rfl rfl rfl rfl rfl rfl (by first | exact .inl ⟨rfl, rfl⟩ | exact .inr ⟨_, _, rfl, rfl⟩ | exact .inr ⟨_, _, rfl, by first | assumption | omega⟩ | exact .inr ⟨_, _, rfl, (Int.toNat_of_nonneg (by omega)).symm⟩) (by first | exact .inl ⟨rfl, rfl⟩ | exact .inr ⟨_, _, rfl, rfl⟩ | exact .inr ⟨_, _, rfl, by first | assumption | omega⟩ | exact .inr ⟨_, _, rfl, (Int.toNat_of_nonneg (by omega)).symm⟩) (by omega) (by omega) (by omega)) (by simp only [Int.toNat_natCast, Int.toNat_one, Int.toNat_zero, Int.reduceToNat, Nat.zero_mul, Nat.one_mul, Nat.sub_zero, Nat.add_sub_cancel, nl, nz, Nat.reduceAdd, Nat.reduceMul, Int.reduceToNat]; exact rfl) ?_
                refine WZ.callM (tb := tb) [0] G rfl rfl rfl rfl rfl rfl rfl rfl (by (try simp only [mapL, mapV, ll]) <;> exact rfl) (by simp [okL, okV]; fail_if_success exfalso) rfl (by simp [embP, okL, okV, mapL, mapV, mem_next, mem_get, mem_ro, mapL_cellsR, okL_cellsR]; fail_if_success exfalso) rfl rfl rfl (by repeat (first | exact trivial | refine ⟨rfl, ?_⟩)) ?_; simp only [jPg, jMb, ll, Nat.reduceAdd, Nat.reduceLT, Nat.zero_add, if_true, if_false, Nat.reduceSub, reduceIte, mapL_cellsR, Nat.lt_irrefl, Nat.not_lt_zero, Nat.zero_lt_succ, Nat.lt_add_one]
                refine WZ.p (tb := tb) rfl rfl rfl rfl rfl ?_
                refine WZ.pV (tb := tb) rfl rfl rfl rfl (evP_sliceC (b := 60) rfl rfl rfl rfl rfl rfl (by first | exact .inl ⟨rfl, rfl⟩ | exact .inr ⟨_, _, rfl, rfl⟩ | exact .inr ⟨_, _, rfl, by first | assumption | omega⟩ | exact .inr ⟨_, _, rfl, (Int.toNat_of_nonneg (by omega)).symm⟩) (by first | exact .inl ⟨rfl, rfl⟩ | exact .inr ⟨_, _, rfl, rfl⟩ | exact .inr ⟨_, _, rfl, by first | assumption | omega⟩ | exact .inr ⟨_, _, rfl, (Int.toNat_of_nonneg (by omega)).symm⟩) (by omega) (by omega) (by omega)) (by simp only [Int.toNat_natCast, Int.toNat_one, Int.toNat_zero, Int.reduceToNat, Nat.zero_mul, Nat.one_mul, Nat.sub_zero, Nat.add_sub_cancel, nl, nz, Nat.reduceAdd, Nat.reduceMul, Int.reduceToNat]; exact rfl) ?_
                refine WZ.callM (tb := tb) [0] SW rfl rfl rfl rfl rfl rfl rfl rfl (by (try simp only [mapL, mapV, ll]) <;> exact rfl) (by simp [okL, okV]; fail_if_success exfalso) rfl (by simp [embP, okL, okV, mapL, mapV, mem_next, mem_get, mem_ro, mapL_cellsR, okL_cellsR]; fail_if_success exfalso) rfl rfl rfl (by repeat (first | exact trivial | refine ⟨rfl, ?_⟩)) ?_; simp only [jPg, jMb, ll, Nat.reduceAdd, Nat.reduceLT, Nat.zero_add, if_true, if_false, Nat.reduceSub, reduceIte, mapL_cellsR, Nat.lt_irrefl, Nat.not_lt_zero, Nat.zero_lt_succ, Nat.lt_add_one]
                refine WZ.pNF (tb := tb) rfl rfl rfl rfl rfl (by omega) ?_
                refine WZ.p (tb := tb) rfl rfl rfl rfl rfl ?_
                refine WZ.fin rfl (by kernel_rfl) (by repeat (first | exact trivial | refine ⟨rfl, ?_⟩)) ?_
                refine WS.pcondF rfl rfl ?_
                refine jq ?_
                refine jg ?_
                refine jo ?_
                refine WS.poP (tb := tb) rfl rfl rfl rfl (step_P (evP_index rfl rfl rfl rfl rfl rfl (by simp only [vcells, List.length_cons, List.length_nil, cellsI_len, cellsB_len, List.length_set, List.length_replicate, List.length_append, List.length_map, List.length_take, List.length_drop]; omega))) (by simp only [Nat.zero_add, Nat.add_zero, Nat.reduceAdd, Nat.reduceMul, Nat.add_assoc, Nat.mul_one]; exact rfl) ?_
                refine WS.po (tb := tb) rfl rfl rfl rfl (step_R rfl (evR_load rfl rfl rfl rfl (cellsR_get0 hx0 rfl))) ?_
                refine jW ?_
                refine jc [] K (by simp [jOb]) (by simp [jEb, jOb, jMb, mapL_cellsR, okL_cellsR]) ?_; rintro _ _ ⟨rfl, rfl⟩ -; simp only [jPg, jMb, ll, Nat.reduceAdd, Nat.reduceLT, Nat.zero_add, if_true, if_false, Nat.reduceSub, reduceIte, mapL_cellsR, Nat.lt_irrefl, Nat.not_lt_zero, Nat.zero_lt_succ, Nat.lt_add_one]
                refine jB false ?_
                iterate 2 refine jo ?_
                refine WS.poP (tb := tb) rfl rfl rfl rfl (step_P (evP_index rfl rfl rfl rfl rfl rfl (by simp only [vcells, List.length_cons, List.length_nil, cellsI_len, cellsB_len, List.length_set, List.length_replicate, List.length_append, List.length_map, List.length_take, List.length_drop]; omega))) (by simp only [Nat.zero_add, Nat.add_zero, Nat.reduceAdd, Nat.reduceMul, Nat.add_assoc, Nat.mul_one]; exact rfl) ?_
                refine WS.po (tb := tb) rfl rfl rfl rfl (step_R rfl (evR_load rfl rfl rfl rfl (cellsR_get0 hx1 rfl))) ?_
                refine jNF ?_
                iterate 3 refine jo ?_
                refine WS.poP (tb := tb) rfl rfl rfl rfl (step_P (evP_index rfl rfl rfl rfl rfl rfl (by simp only [vcells, List.length_cons, List.length_nil, cellsI_len, cellsB_len, List.length_set, List.length_replicate, List.length_append, List.length_map, List.length_take, List.length_drop]; omega))) (by simp only [Nat.zero_add, Nat.add_zero, Nat.reduceAdd, Nat.reduceMul, Nat.add_assoc, Nat.mul_one]; exact rfl) ?_
                refine WS.po (tb := tb) rfl rfl rfl rfl (step_R rfl (evR_load rfl rfl rfl rfl (cellsR_get0 hx2 rfl))) ?_
                refine jNT ?_
                iterate 2 refine jo ?_
                iterate 4 refine jN ?_
                iterate 2 refine jo ?_
                refine je ?_
                refine WS.pcondT rfl rfl ?_
                refine jq ?_
                refine jg ?_
                refine WS.poA (tb := tb) rfl rfl rfl rfl rfl (by simp only [vcells, setL, ll, nl, nz, Nat.reduceAdd, Nat.reduceMul, Int.reduceToNat]; exact rfl) ?_
                refine WS.po0 (tb := tb) rfl rfl rfl rfl (step_H rfl rfl (evH_store rfl rfl rfl rfl rfl (Nat.zero_le _) rfl (by simp [vcells]) (Nat.le_of_ble_eq_true rfl))) ?_; rw [upd_mem _ rfl]; simp only [vcells, List.set_cons_zero, List.set_cons_succ, hz0]; (try simp only [setL, List.set_cons_zero, List.set_cons_succ])
                refine jo ?_
                refine je ?_
                refine WS.pret rfl ⟨.inr rfl, _, (resV2 (a := 2) (k := 3) (T := 30) (z := 39) rfl rfl rfl rfl rfl rfl), ?_⟩
                exact ⟨_, rfl, [0], [some ⟨cellsR (rwI .u8) I, 5, false⟩], .tup [.agg pgZ, .i .i64 11], ⟨rfl, rfl, (by simp [jVb, jOb, jMb, mapL_cellsR, okL_cellsR]), rfl⟩, rfl, ⟨okL_pgV _ _ _ _ _ _ _ _ _, trivial, trivial⟩, rfl, rfl⟩
            · skip
              refine FM.pbodyV (tb := tb) (fn := Try.f10) rfl rfl ?_
              simp only [argS, Nat.reduceAdd, List.length_cons, List.length_nil]
              refine jq ?_
              refine jg ?_
              refine jn ?_
              refine jo ?_
              refine je ?_
              refine jq ?_
              refine WS.pblock rfl ?_
              refine jq ?_
              refine jg ?_
              iterate 2 refine jo ?_
              refine jB false ?_
              refine jo ?_
              refine je ?_
              refine WS.pcondF rfl rfl ?_
              refine jq ?_
              refine jg ?_
              refine jo ?_
              refine jc [0] C (by simp [jOb]) (by simp [jEb, jOb, jMb, mapL_cellsR, okL_cellsR]) ?_; rintro _ _ ⟨rfl, rfl⟩ -; simp only [jPg, jMb, ll, Nat.reduceAdd, Nat.reduceLT, Nat.zero_add, if_true, if_false, Nat.reduceSub, reduceIte, mapL_cellsR, Nat.lt_irrefl, Nat.not_lt_zero, Nat.zero_lt_succ, Nat.lt_add_one]
              refine jo ?_
              refine je ?_
              refine WS.pcondF rfl rfl ?_
              refine jq ?_
              refine jg ?_
              refine jo ?_
              refine WS.poV (tb := tb) rfl rfl rfl rfl (step_P (evP_sliceC (a := 64) rfl rfl rfl rfl rfl rfl (by first | exact .inl ⟨rfl, rfl⟩ | exact .inr ⟨_, _, rfl, rfl⟩ | exact .inr ⟨_, _, rfl, by first | assumption | omega⟩ | exact .inr ⟨_, _, rfl, (Int.toNat_of_nonneg (by omega)).symm⟩) (by first | exact .inl ⟨rfl, rfl⟩ | exact .inr ⟨_, _, rfl, rfl⟩ | exact .inr ⟨_, _, rfl, by first | assumption | omega⟩ | exact .inr ⟨_, _, rfl, (Int.toNat_of_nonneg (by omega)).symm⟩) (by omega) (by omega) (by omega))) (by simp only [Int.toNat_natCast, Int.toNat_one, Int.toNat_zero, Int.reduceToNat, Nat.zero_mul, Nat.one_mul, Nat.sub_zero, Nat.add_sub_cancel, nl, nz, Nat.reduceAdd, Nat.reduceMul, Int.reduceToNat]; exact rfl) ?_
              refine WS.po (tb := tb) rfl rfl rfl rfl (step_R rfl (evR_str rfl rfl rfl rfl rfl (cellsAt_part (o := 64) (m := 4) rfl (by omega)) (by first | exact rfl | (simp only [vcells, List.length_cons, List.length_nil, cellsI_len, cellsB_len, List.length_set, List.length_replicate, List.length_append, List.length_map, List.length_take, List.length_drop] <;> omega) | omega))) ?_
              refine WS.poB (tb := tb) false rfl rfl rfl rfl rfl (by assumption) ?_
              refine jo ?_
              refine je ?_
              refine WS.pcondF rfl rfl ?_
              refine jq ?_
              refine WS.pdrawX (tb := tb) (by kernel_rfl) rfl (by kernel_rfl) ?_; (try refine WZ.keep (l := 0) rfl ?_)
              refine WZ.p (tb := tb) rfl rfl rfl rfl rfl ?_
              refine WZ.pV (tb := tb) rfl rfl rfl rfl (evP_sliceC (a := 60) rfl rfl rfl rfl rfl rfl (by first | exact .inl ⟨rfl, rfl⟩ | exact .inr ⟨_, _, rfl, rfl⟩ | exact .inr ⟨_, _, rfl, by first | assumption | omega⟩ | exact .inr ⟨_, _, rfl, (Int.toNat_of_nonneg (by omega)).symm⟩) (by first | exact .inl ⟨rfl, rfl⟩ | exact .inr ⟨_, _, rfl, rfl⟩ | exact .inr ⟨_, _, rfl, by first | assumption | omega⟩ | exact .inr ⟨_, _, rfl, (Int.toNat_of_nonneg (by omega)).symm⟩) (by omega) (by omega) (by omega)) (by simp only [Int.toNat_natCast, Int.toNat_one, Int.toNat_zero, Int.reduceToNat, Nat.zero_mul, Nat.one_mul, Nat.sub_zero, Nat.add_sub_cancel, nl, nz, Nat.reduceAdd, Nat.reduceMul, Int.reduceToNat]; exact rfl) ?_
              refine WZ.callM (tb := tb) [0] G rfl rfl rfl rfl rfl rfl rfl rfl (by (try simp only [mapL, mapV, ll]) <;> exact rfl) (by simp [okL, okV]; fail_if_success exfalso) rfl (by simp [embP, okL, okV, mapL, mapV, mem_next, mem_get, mem_ro, mapL_cellsR, okL_cellsR]; fail_if_success exfalso) rfl rfl rfl (by repeat (first | exact trivial | refine ⟨rfl, ?_⟩)) ?_; simp only [jPg, jMb, ll, Nat.reduceAdd, Nat.reduceLT, Nat.zero_add, if_true, if_false, Nat.reduceSub, reduceIte, mapL_cellsR, Nat.lt_irrefl, Nat.not_lt_zero, Nat.zero_lt_succ, Nat.lt_add_one]
              refine WZ.p (tb := tb) rfl rfl rfl rfl rfl ?_
              refine WZ.pV (tb := tb) rfl rfl rfl rfl (evP_sliceC (b := 60) rfl rfl rfl rfl rfl rfl (by first | exact .inl ⟨rfl, rfl⟩ | exact .inr ⟨_, _, rfl, rfl⟩ | exact .inr ⟨_, _, rfl, by first | assumption | omega⟩ | exact .inr ⟨_, _, rfl, (Int.toNat_of_nonneg (by omega)).symm⟩) (by first | exact .inl ⟨rfl, rfl⟩ | exact .inr ⟨_, _, rfl, rfl⟩ | exact .inr ⟨_, _, rfl, by first | assumption | omega⟩ | exact .inr ⟨_, _, rfl, (Int.toNat_of_nonneg (by omega)).symm⟩) (by omega) (by omega) (by omega)) (by simp only [Int.toNat_natCast, Int.toNat_one, Int.toNat_zero, Int.reduceToNat, Nat.zero_mul, Nat.one_mul, Nat.sub_zero, Nat.add_sub_cancel, nl, nz, Nat.reduceAdd, Nat.reduceMul, Int.reduceToNat]; exact rfl) ?_
              refine WZ.callM (tb := tb) [0] SW rfl rfl rfl rfl rfl rfl rfl rfl (by (try simp only [mapL, mapV, ll]) <;> exact rfl) (by simp [okL, okV]; fail_if_success exfalso) rfl (by simp [embP, okL, okV, mapL, mapV, mem_next, mem_get, mem_ro, mapL_cellsR, okL_cellsR]; fail_if_success exfalso) rfl rfl rfl (by repeat (first | exact trivial | refine ⟨rfl, ?_⟩)) ?_; simp only [jPg, jMb, ll, Nat.reduceAdd, Nat.reduceLT, Nat.zero_add, if_true, if_false, Nat.reduceSub, reduceIte, mapL_cellsR, Nat.lt_irrefl, Nat.not_lt_zero, Nat.zero_lt_succ, Nat.lt_add_one]
              refine WZ.pNF (tb := tb) rfl rfl rfl rfl rfl (by omega) ?_
              refine WZ.p (tb := tb) rfl rfl rfl rfl rfl ?_
              refine WZ.fin rfl (by kernel_rfl) (by repeat (first | exact trivial | refine ⟨rfl, ?_⟩)) ?_
              refine WS.pcondF rfl rfl ?_
              refine jq ?_
              refine jg ?_
              refine jo ?_
              refine WS.poP (tb := tb) rfl rfl rfl rfl (step_P (evP_index rfl rfl rfl rfl rfl rfl (by simp only [vcells, List.length_cons, List.length_nil, cellsI_len, cellsB_len, List.length_set, List.length_replicate, List.length_append, List.length_map, List.length_take, List.length_drop]; omega))) (by simp only [Nat.zero_add, Nat.add_zero, Nat.reduceAdd, Nat.reduceMul, Nat.add_assoc, Nat.mul_one]; exact rfl) ?_
              refine WS.po (tb := tb) rfl rfl rfl rfl (step_R rfl (evR_load rfl rfl rfl rfl (cellsR_get0 hx0 rfl))) ?_
              refine jW ?_
              refine jc [] K (by simp [jOb]) (by simp [jEb, jOb, jMb, mapL_cellsR, okL_cellsR]) ?_; rintro _ _ ⟨rfl, rfl⟩ -; simp only [jPg, jMb, ll, Nat.reduceAdd, Nat.reduceLT, Nat.zero_add, if_true, if_false, Nat.reduceSub, reduceIte, mapL_cellsR, Nat.lt_irrefl, Nat.not_lt_zero, Nat.zero_lt_succ, Nat.lt_add_one]
              refine jB false ?_
              iterate 2 refine jo ?_
              refine WS.poP (tb := tb) rfl rfl rfl rfl (step_P (evP_index rfl rfl rfl rfl rfl rfl (by simp only [vcells, List.length_cons, List.length_nil, cellsI_len, cellsB_len, List.length_set, List.length_replicate, List.length_append, List.length_map, List.length_take, List.length_drop]; omega))) (by simp only [Nat.zero_add, Nat.add_zero, Nat.reduceAdd, Nat.reduceMul, Nat.add_assoc, Nat.mul_one]; exact rfl) ?_
              refine WS.po (tb := tb) rfl rfl rfl rfl (step_R rfl (evR_load rfl rfl rfl rfl (cellsR_get0 hx1 rfl))) ?_
              refine jNT ?_
              iterate 2 refine jo ?_
              iterate 4 refine jN ?_
              iterate 2 refine jo ?_
              iterate 4 refine jN ?_
              iterate 2 refine jo ?_
              refine je ?_
              refine WS.pcondT rfl rfl ?_
              refine jq ?_
              refine jg ?_
              refine WS.poA (tb := tb) rfl rfl rfl rfl rfl (by simp only [vcells, setL, ll, nl, nz, Nat.reduceAdd, Nat.reduceMul, Int.reduceToNat]; exact rfl) ?_
              refine WS.po0 (tb := tb) rfl rfl rfl rfl (step_H rfl rfl (evH_store rfl rfl rfl rfl rfl (Nat.zero_le _) rfl (by simp [vcells]) (Nat.le_of_ble_eq_true rfl))) ?_; rw [upd_mem _ rfl]; simp only [vcells, List.set_cons_zero, List.set_cons_succ, hz0]; (try simp only [setL, List.set_cons_zero, List.set_cons_succ])
              refine jo ?_
              refine je ?_
              refine WS.pret rfl ⟨.inr rfl, _, (resV2 (a := 2) (k := 3) (T := 30) (z := 39) rfl rfl rfl rfl rfl rfl), ?_⟩
              exact ⟨_, rfl, [0], [some ⟨cellsR (rwI .u8) I, 5, false⟩], .tup [.agg pgZ, .i .i64 11], ⟨rfl, rfl, (by simp [jVb, jOb, jMb, mapL_cellsR, okL_cellsR]), rfl⟩, rfl, ⟨okL_pgV _ _ _ _ _ _ _ _ _, trivial, trivial⟩, rfl, rfl⟩
          · have K := kind_no k hk
            refine FM.pbodyV (tb := tb) (fn := Try.f10) rfl rfl ?_
            simp only [argS, Nat.reduceAdd, List.length_cons, List.length_nil]
            refine jq ?_
            refine jg ?_
            refine jn ?_
            refine jo ?_
            refine je ?_
            refine jq ?_
            refine WS.pblock rfl ?_
            refine jq ?_
            refine jg ?_
            iterate 2 refine jo ?_
            refine jB false ?_
            refine jo ?_
            refine je ?_
            refine WS.pcondF rfl rfl ?_
            refine jq ?_
            refine jg ?_
            refine jo ?_
            refine jc [0] C (by simp [jOb]) (by simp [jEb, jOb, jMb, mapL_cellsR, okL_cellsR]) ?_; rintro _ _ ⟨rfl, rfl⟩ -; simp only [jPg, jMb, ll, Nat.reduceAdd, Nat.reduceLT, Nat.zero_add, if_true, if_false, Nat.reduceSub, reduceIte, mapL_cellsR, Nat.lt_irrefl, Nat.not_lt_zero, Nat.zero_lt_succ, Nat.lt_add_one]
            refine jo ?_
            refine je ?_
            refine WS.pcondF rfl rfl ?_
            refine jq ?_
            refine jg ?_
            refine jo ?_
            refine WS.poV (tb := tb) rfl rfl rfl rfl (step_P (evP_sliceC (a := 64) rfl rfl rfl rfl rfl rfl (by first | exact .inl ⟨rfl, rfl⟩ | exact .inr ⟨_, _, rfl, rfl⟩ | exact .inr ⟨_, _, rfl, by first | assumption | omega⟩ | exact .inr ⟨_, _, rfl, (Int.toNat_of_nonneg (by omega)).symm⟩) (by first | exact .inl ⟨rfl, rfl⟩ | exact .inr ⟨_, _, rfl, rfl⟩ | exact .inr ⟨_, _, rfl, by first | assumption | omega⟩ | exact .inr ⟨_, _, rfl, (Int.toNat_of_nonneg (by omega)).symm⟩) (by omega) (by omega) (by omega))) (by simp only [Int.toNat_natCast, Int.toNat_one, Int.toNat_zero, Int.reduceToNat, Nat.zero_mul, Nat.one_mul, Nat.sub_zero, Nat.add_sub_cancel, nl, nz, Nat.reduceAdd, Nat.reduceMul, Int.reduceToNat]; exact rfl) ?_
            refine WS.po (tb := tb) rfl rfl rfl rfl (step_R rfl (evR_str rfl rfl rfl rfl rfl (cellsAt_part (o := 64) (m := 4) rfl (by omega)) (by first | exact rfl | (simp only [vcells, List.length_cons, List.length_nil, cellsI_len, cellsB_len, List.length_set, List.length_replicate, List.length_append, List.length_map, List.length_take, List.length_drop] <;> omega) | omega))) ?_
            refine WS.poB (tb := tb) false rfl rfl rfl rfl rfl (by assumption) ?_
            refine jo ?_
            refine je ?_
            refine WS.pcondF rfl rfl ?_
            refine jq ?_
            refine WS.pdrawX (tb := tb) (by kernel_rfl) rfl (by kernel_rfl) ?_; (try refine WZ.keep (l := 0) rfl ?_)
            refine WZ.p (tb := tb) rfl rfl rfl rfl rfl ?_
            refine WZ.pV (tb := tb) rfl rfl rfl rfl (evP_sliceC (a := 60) rfl rfl rfl rfl rfl rfl (by first | exact .inl ⟨rfl, rfl⟩ | exact .inr ⟨_, _, rfl, rfl⟩ | exact .inr ⟨_, _, rfl, by first | assumption | omega⟩ | exact .inr ⟨_, _, rfl, (Int.toNat_of_nonneg (by omega)).symm⟩) (by first | exact .inl ⟨rfl, rfl⟩ | exact .inr ⟨_, _, rfl, rfl⟩ | exact .inr ⟨_, _, rfl, by first | assumption | omega⟩ | exact .inr ⟨_, _, rfl, (Int.toNat_of_nonneg (by omega)).symm⟩) (by omega) (by omega) (by omega)) (by simp only [Int.toNat_natCast, Int.toNat_one, Int.toNat_zero, Int.reduceToNat, Nat.zero_mul, Nat.one_mul, Nat.sub_zero, Nat.add_sub_cancel, nl, nz, Nat.reduceAdd, Nat.reduceMul, Int.reduceToNat]; exact rfl) ?_
            refine WZ.callM (tb := tb) [0] G rfl rfl rfl rfl rfl rfl rfl rfl (by (try simp only [mapL, mapV, ll]) <;> exact rfl) (by simp [okL, okV]; fail_if_success exfalso) rfl (by simp [embP, okL, okV, mapL, mapV, mem_next, mem_get, mem_ro, mapL_cellsR, okL_cellsR]; fail_if_success exfalso) rfl rfl rfl (by repeat (first | exact trivial | refine ⟨rfl, ?_⟩)) ?_; simp only [jPg, jMb, ll, Nat.reduceAdd, Nat.reduceLT, Nat.zero_add, if_true, if_false, Nat.reduceSub, reduceIte, mapL_cellsR, Nat.lt_irrefl, Nat.not_lt_zero, Nat.zero_lt_succ, Nat.lt_add_one]
            refine WZ.p (tb := tb) rfl rfl rfl rfl rfl ?_
            refine WZ.pV (tb := tb) rfl rfl rfl rfl (evP_sliceC (b := 60) rfl rfl rfl rfl rfl rfl (by first | exact .inl ⟨rfl, rfl⟩ | exact .inr ⟨_, _, rfl, rfl⟩ | exact .inr ⟨_, _, rfl, by first | assumption | omega⟩ | exact .inr ⟨_, _, rfl, (Int.toNat_of_nonneg (by omega)).symm⟩) (by first | exact .inl ⟨rfl, rfl⟩ | exact .inr ⟨_, _, rfl, rfl⟩ | exact .inr ⟨_, _, rfl, by first | assumption | omega⟩ | exact .inr ⟨_, _, rfl, (Int.toNat_of_nonneg (by omega)).symm⟩) (by omega) (by omega) (by omega)) (by simp only [Int.toNat_natCast, Int.toNat_one, Int.toNat_zero, Int.reduceToNat, Nat.zero_mul, Nat.one_mul, Nat.sub_zero, Nat.add_sub_cancel, nl, nz, Nat.reduceAdd, Nat.reduceMul, Int.reduceToNat]; exact rfl) ?_
            refine WZ.callM (tb := tb) [0] SW rfl rfl rfl rfl rfl rfl rfl rfl (by (try simp only [mapL, mapV, ll]) <;> exact rfl) (by simp [okL, okV]; fail_if_success exfalso) rfl (by simp [embP, okL, okV, mapL, mapV, mem_next, mem_get, mem_ro, mapL_cellsR, okL_cellsR]; fail_if_success exfalso) rfl rfl rfl (by repeat (first | exact trivial | refine ⟨rfl, ?_⟩)) ?_; simp only [jPg, jMb, ll, Nat.reduceAdd, Nat.reduceLT, Nat.zero_add, if_true, if_false, Nat.reduceSub, reduceIte, mapL_cellsR, Nat.lt_irrefl, Nat.not_lt_zero, Nat.zero_lt_succ, Nat.lt_add_one]
            refine WZ.pNF (tb := tb) rfl rfl rfl rfl rfl (by omega) ?_
            refine WZ.p (tb := tb) rfl rfl rfl rfl rfl ?_
            refine WZ.fin rfl (by kernel_rfl) (by repeat (first | exact trivial | refine ⟨rfl, ?_⟩)) ?_
            refine WS.pcondF rfl rfl ?_
            refine jq ?_
            refine jg ?_
            refine jo ?_
            refine WS.poP (tb := tb) rfl rfl rfl rfl (step_P (evP_index rfl rfl rfl rfl rfl rfl (by simp only [vcells, List.length_cons, List.length_nil, cellsI_len, cellsB_len, List.length_set, List.length_replicate, List.length_append, List.length_map, List.length_take, List.length_drop]; omega))) (by simp only [Nat.zero_add, Nat.add_zero, Nat.reduceAdd, Nat.reduceMul, Nat.add_assoc, Nat.mul_one]; exact rfl) ?_
            refine WS.po (tb := tb) rfl rfl rfl rfl (step_R rfl (evR_load rfl rfl rfl rfl (cellsR_get0 hx0 rfl))) ?_
            refine jW ?_
            refine jc [] K (by simp [jOb]) (by simp [jEb, jOb, jMb, mapL_cellsR, okL_cellsR]) ?_; rintro _ _ ⟨rfl, rfl⟩ -; simp only [jPg, jMb, ll, Nat.reduceAdd, Nat.reduceLT, Nat.zero_add, if_true, if_false, Nat.reduceSub, reduceIte, mapL_cellsR, Nat.lt_irrefl, Nat.not_lt_zero, Nat.zero_lt_succ, Nat.lt_add_one]
            refine jB true ?_
            refine jo ?_
            iterate 4 refine jN ?_
            iterate 2 refine jo ?_
            iterate 4 refine jN ?_
            iterate 2 refine jo ?_
            iterate 4 refine jN ?_
            iterate 2 refine jo ?_
            refine je ?_
            refine WS.pcondT rfl rfl ?_
            refine jq ?_
            refine jg ?_
            refine WS.poA (tb := tb) rfl rfl rfl rfl rfl (by simp only [vcells, setL, ll, nl, nz, Nat.reduceAdd, Nat.reduceMul, Int.reduceToNat]; exact rfl) ?_
            refine WS.po0 (tb := tb) rfl rfl rfl rfl (step_H rfl rfl (evH_store rfl rfl rfl rfl rfl (Nat.zero_le _) rfl (by simp [vcells]) (Nat.le_of_ble_eq_true rfl))) ?_; rw [upd_mem _ rfl]; simp only [vcells, List.set_cons_zero, List.set_cons_succ, hz0]; (try simp only [setL, List.set_cons_zero, List.set_cons_succ])
            refine jo ?_
            refine je ?_
            refine WS.pret rfl ⟨.inr rfl, _, (resV2 (a := 2) (k := 3) (T := 30) (z := 39) rfl rfl rfl rfl rfl rfl), ?_⟩
            exact ⟨_, rfl, [0], [some ⟨cellsR (rwI .u8) I, 5, false⟩], .tup [.agg pgZ, .i .i64 11], ⟨rfl, rfl, (by simp [jVb, jOb, jMb, mapL_cellsR, okL_cellsR]), rfl⟩, rfl, ⟨okL_pgV _ _ _ _ _ _ _ _ _, trivial, trivial⟩, rfl, rfl⟩
        · have e : er = 10 := by
            rw [← he]; unfold dErr
            rw [if_neg (by omega), if_neg hc, if_neg (by rw [hm]; exact fun z => z h9), if_pos (by rw [e60, s60]; exact h10)]
          subst e
          generalize ge4 I 60 = g at *
          generalize crcM 0 (I.take 60) = s at *
          refine FM.pbodyV (tb := tb) (fn := Try.f10) rfl rfl ?_
          simp only [argS, Nat.reduceAdd, List.length_cons, List.length_nil]
          refine jq ?_
          refine jg ?_
          refine jn ?_
          refine jo ?_
          refine je ?_
          refine jq ?_
          refine WS.pblock rfl ?_
          refine jq ?_
          refine jg ?_
          iterate 2 refine jo ?_
          refine jB false ?_
          refine jo ?_
          refine je ?_
          refine WS.pcondF rfl rfl ?_
          refine jq ?_
          refine jg ?_
          refine jo ?_
          refine jc [0] C (by simp [jOb]) (by simp [jEb, jOb, jMb, mapL_cellsR, okL_cellsR]) ?_; rintro _ _ ⟨rfl, rfl⟩ -; simp only [jPg, jMb, ll, Nat.reduceAdd, Nat.reduceLT, Nat.zero_add, if_true, if_false, Nat.reduceSub, reduceIte, mapL_cellsR, Nat.lt_irrefl, Nat.not_lt_zero, Nat.zero_lt_succ, Nat.lt_add_one]
          refine jo ?_
          refine je ?_
          refine WS.pcondF rfl rfl ?_
          refine jq ?_
          refine jg ?_
          refine jo ?_
          refine WS.poV (tb := tb) rfl rfl rfl rfl (step_P (evP_sliceC (a := 64) rfl rfl rfl rfl rfl rfl (by first | exact .inl ⟨rfl, rfl⟩ | exact .inr ⟨_, _, rfl, rfl⟩ | exact .inr ⟨_, _, rfl, by first | assumption | omega⟩ | exact .inr ⟨_, _, rfl, (Int.toNat_of_nonneg (by omega)).symm⟩) (by first | exact .inl ⟨rfl, rfl⟩ | exact .inr ⟨_, _, rfl, rfl⟩ | exact .inr ⟨_, _, rfl, by first | assumption | omega⟩ | exact .inr ⟨_, _, rfl, (Int.toNat_of_nonneg (by omega)).symm⟩) (by omega) (by omega) (by omega))) (by simp only [Int.toNat_natCast, Int.toNat_one, Int.toNat_zero, Int.reduceToNat, Nat.zero_mul, Nat.one_mul, Nat.sub_zero, Nat.add_sub_cancel, nl, nz, Nat.reduceAdd, Nat.reduceMul, Int.reduceToNat]; exact rfl) ?_
          refine WS.po (tb := tb) rfl rfl rfl rfl (step_R rfl (evR_str rfl rfl rfl rfl rfl (cellsAt_part (o := 64) (m := 4) rfl (by omega)) (by first | exact rfl | (simp only [vcells, List.length_cons, List.length_nil, cellsI_len, cellsB_len, List.length_set, List.length_replicate, List.length_append, List.length_map, List.length_take, List.length_drop] <;> omega) | omega))) ?_
          refine WS.poB (tb := tb) false rfl rfl rfl rfl rfl (by assumption) ?_
          refine jo ?_
          refine je ?_
          refine WS.pcondF rfl rfl ?_
          refine jq ?_
          refine WS.pdrawX (tb := tb) (by kernel_rfl) rfl (by kernel_rfl) ?_; (try refine WZ.keep (l := 0) rfl ?_)
          refine WZ.p (tb := tb) rfl rfl rfl rfl rfl ?_
          refine WZ.pV (tb := tb) rfl rfl rfl rfl (evP_sliceC (a := 60) rfl rfl rfl rfl rfl rfl (by first | exact .inl ⟨rfl, rfl⟩ | exact .inr ⟨_, _, rfl, rfl⟩ | exact .inr ⟨_, _, rfl, by first | assumption | omega⟩ | exact .inr ⟨_, _, rfl, (Int.toNat_of_nonneg (by omega)).symm⟩) (by first | exact .inl ⟨rfl, rfl⟩ | exact .inr ⟨_, _, rfl, rfl⟩ | exact .inr ⟨_, _, rfl, by first | assumption | omega⟩ | exact .inr ⟨_, _, rfl, (Int.toNat_of_nonneg (by omega)).symm⟩) (by omega) (by omega) (by omega)) (by simp only [Int.toNat_natCast, Int.toNat_one, Int.toNat_zero, Int.reduceToNat, Nat.zero_mul, Nat.one_mul, Nat.sub_zero, Nat.add_sub_cancel, nl, nz, Nat.reduceAdd, Nat.reduceMul, Int.reduceToNat]; exact rfl) ?_
          refine WZ.callM (tb := tb) [0] G rfl rfl rfl rfl rfl rfl rfl rfl (by (try simp only [mapL, mapV, ll]) <;> exact rfl) (by simp [okL, okV]; fail_if_success exfalso) rfl (by simp [embP, okL, okV, mapL, mapV, mem_next, mem_get, mem_ro, mapL_cellsR, okL_cellsR]; fail_if_success exfalso) rfl rfl rfl (by repeat (first | exact trivial | refine ⟨rfl, ?_⟩)) ?_; simp only [jPg, jMb, ll, Nat.reduceAdd, Nat.reduceLT, Nat.zero_add, if_true, if_false, Nat.reduceSub, reduceIte, mapL_cellsR, Nat.lt_irrefl, Nat.not_lt_zero, Nat.zero_lt_succ, Nat.lt_add_one]
          refine WZ.p (tb := tb) rfl rfl rfl rfl rfl ?_
          refine WZ.pV (tb := tb) rfl rfl rfl rfl (evP_sliceC (b := 60) rfl rfl rfl rfl rfl rfl (by first | exact .inl ⟨rfl, rfl⟩ | exact .inr ⟨_, _, rfl, rfl⟩ | exact .inr ⟨_, _, rfl, by first | assumption | omega⟩ | exact .inr ⟨_, _, rfl, (Int.toNat_of_nonneg (by omega)).symm⟩) (by first | exact .inl ⟨rfl, rfl⟩ | exact .inr ⟨_, _, rfl, rfl⟩ | exact .inr ⟨_, _, rfl, by first | assumption | omega⟩ | exact .inr ⟨_, _, rfl, (Int.toNat_of_nonneg (by omega)).symm⟩) (by omega) (by omega) (by omega)) (by simp only [Int.toNat_natCast, Int.toNat_one, Int.toNat_zero, Int.reduceToNat, Nat.zero_mul, Nat.one_mul, Nat.sub_zero, Nat.add_sub_cancel, nl, nz, Nat.reduceAdd, Nat.reduceMul, Int.reduceToNat]; exact rfl) ?_
          refine WZ.callM (tb := tb) [0] SW rfl rfl rfl rfl rfl rfl rfl rfl (by (try simp only [mapL, mapV, ll]) <;> exact rfl) (by simp [okL, okV]; fail_if_success exfalso) rfl (by simp [embP, okL, okV, mapL, mapV, mem_next, mem_get, mem_ro, mapL_cellsR, okL_cellsR]; fail_if_success exfalso) rfl rfl rfl (by repeat (first | exact trivial | refine ⟨rfl, ?_⟩)) ?_; simp only [jPg, jMb, ll, Nat.reduceAdd, Nat.reduceLT, Nat.zero_add, if_true, if_false, Nat.reduceSub, reduceIte, mapL_cellsR, Nat.lt_irrefl, Nat.not_lt_zero, Nat.zero_lt_succ, Nat.lt_add_one]
          refine WZ.pNT (tb := tb) rfl rfl rfl rfl rfl (by omega) ?_
          refine WZ.p (tb := tb) rfl rfl rfl rfl rfl ?_
          refine WZ.fin rfl (by kernel_rfl) (by repeat (first | exact trivial | refine ⟨rfl, ?_⟩)) ?_
          refine WS.pcondT rfl rfl ?_
          refine jq ?_
          refine jg ?_
          refine WS.poA (tb := tb) rfl rfl rfl rfl rfl (by simp only [vcells, setL, ll, nl, nz, Nat.reduceAdd, Nat.reduceMul, Int.reduceToNat]; exact rfl) ?_
          refine WS.po0 (tb := tb) rfl rfl rfl rfl (step_H rfl rfl (evH_store rfl rfl rfl rfl rfl (Nat.zero_le _) rfl (by simp [vcells]) (Nat.le_of_ble_eq_true rfl))) ?_; rw [upd_mem _ rfl]; simp only [vcells, List.set_cons_zero, List.set_cons_succ, hz0]; (try simp only [setL, List.set_cons_zero, List.set_cons_succ])
          refine jo ?_
          refine je ?_
          refine WS.pret rfl ⟨.inr rfl, _, (resV2 (a := 2) (k := 3) (T := 30) (z := 39) rfl rfl rfl rfl rfl rfl), ?_⟩
          exact ⟨_, rfl, [0], [some ⟨cellsR (rwI .u8) I, 5, false⟩], .tup [.agg pgZ, .i .i64 10], ⟨rfl, rfl, (by simp [jVb, jOb, jMb, mapL_cellsR, okL_cellsR]), rfl⟩, rfl, ⟨okL_pgV _ _ _ _ _ _ _ _ _, trivial, trivial⟩, rfl, rfl⟩
      · have e : er = 9 := by rw [← he]; unfold dErr; rw [if_neg (by omega), if_neg hc, if_pos (by rw [hm]; exact h9)]
        subst e
        have h9' : ((I.drop 64).take 4 == [68, 79, 78, 69]) = false := by simpa using h9
        rw [h9'] at hsm
        refine FM.pbodyV (tb := tb) (fn := Try.f10) rfl rfl ?_
        simp only [argS, Nat.reduceAdd, List.length_cons, List.length_nil]
        refine jq ?_
        refine jg ?_
        refine jn ?_
        refine jo ?_
        refine je ?_
        refine jq ?_
        refine WS.pblock rfl ?_
        refine jq ?_
        refine jg ?_
        iterate 2 refine jo ?_
        refine jB false ?_
        refine jo ?_
        refine je ?_
        refine WS.pcondF rfl rfl ?_
        refine jq ?_
        refine jg ?_
        refine jo ?_
        refine jc [0] C (by simp [jOb]) (by simp [jEb, jOb, jMb, mapL_cellsR, okL_cellsR]) ?_; rintro _ _ ⟨rfl, rfl⟩ -; simp only [jPg, jMb, ll, Nat.reduceAdd, Nat.reduceLT, Nat.zero_add, if_true, if_false, Nat.reduceSub, reduceIte, mapL_cellsR, Nat.lt_irrefl, Nat.not_lt_zero, Nat.zero_lt_succ, Nat.lt_add_one]
        refine jo ?_
        refine je ?_
        refine WS.pcondF rfl rfl ?_
        refine jq ?_
        refine jg ?_
        refine jo ?_
        refine WS.poV (tb := tb) rfl rfl rfl rfl (step_P (evP_sliceC (a := 64) rfl rfl rfl rfl rfl rfl (by first | exact .inl ⟨rfl, rfl⟩ | exact .inr ⟨_, _, rfl, rfl⟩ | exact .inr ⟨_, _, rfl, by first | assumption | omega⟩ | exact .inr ⟨_, _, rfl, (Int.toNat_of_nonneg (by omega)).symm⟩) (by first | exact .inl ⟨rfl, rfl⟩ | exact .inr ⟨_, _, rfl, rfl⟩ | exact .inr ⟨_, _, rfl, by first | assumption | omega⟩ | exact .inr ⟨_, _, rfl, (Int.toNat_of_nonneg (by omega)).symm⟩) (by omega) (by omega) (by omega))) (by simp only [Int.toNat_natCast, Int.toNat_one, Int.toNat_zero, Int.reduceToNat, Nat.zero_mul, Nat.one_mul, Nat.sub_zero, Nat.add_sub_cancel, nl, nz, Nat.reduceAdd, Nat.reduceMul, Int.reduceToNat]; exact rfl) ?_
        refine WS.po (tb := tb) rfl rfl rfl rfl (step_R rfl (evR_str rfl rfl rfl rfl rfl (cellsAt_part (o := 64) (m := 4) rfl (by omega)) (by first | exact rfl | (simp only [vcells, List.length_cons, List.length_nil, cellsI_len, cellsB_len, List.length_set, List.length_replicate, List.length_append, List.length_map, List.length_take, List.length_drop] <;> omega) | omega))) ?_
        refine WS.poB (tb := tb) true rfl rfl rfl rfl rfl (by assumption) ?_
        refine jo ?_
        refine je ?_
        refine WS.pcondT rfl rfl ?_
        refine jq ?_
        refine jg ?_
        refine WS.poA (tb := tb) rfl rfl rfl rfl rfl (by simp only [vcells, setL, ll, nl, nz, Nat.reduceAdd, Nat.reduceMul, Int.reduceToNat]; exact rfl) ?_
        refine WS.po0 (tb := tb) rfl rfl rfl rfl (step_H rfl rfl (evH_store rfl rfl rfl rfl rfl (Nat.zero_le _) rfl (by simp [vcells]) (Nat.le_of_ble_eq_true rfl))) ?_; rw [upd_mem _ rfl]; simp only [vcells, List.set_cons_zero, List.set_cons_succ, hz0]; (try simp only [setL, List.set_cons_zero, List.set_cons_succ])
        refine jo ?_
        refine je ?_
        refine WS.pret rfl ⟨.inr rfl, _, (resV2 (a := 2) (k := 3) (T := 30) (z := 39) rfl rfl rfl rfl rfl rfl), ?_⟩
        exact ⟨_, rfl, [0], [some ⟨cellsR (rwI .u8) I, 5, false⟩], .tup [.agg pgZ, .i .i64 9], ⟨rfl, rfl, (by simp [jVb, jOb, jMb, mapL_cellsR, okL_cellsR]), rfl⟩, rfl, ⟨okL_pgV _ _ _ _ _ _ _ _ _, trivial, trivial⟩, rfl, rfl⟩
  · have e : er = 1 := by rw [← he]; unfold dErr; rw [if_pos (by omega)]
    subst e
    refine FM.pbodyV (tb := tb) (fn := Try.f10) rfl rfl ?_
    simp only [argS, Nat.reduceAdd, List.length_cons, List.length_nil]
    refine jq ?_
    refine jg ?_
    refine jn ?_
    refine jo ?_
    refine je ?_
    refine jq ?_
    refine WS.pblock rfl ?_
    refine jq ?_
    refine jg ?_
    iterate 2 refine jo ?_
    refine jNT ?_
    refine jo ?_
    refine je ?_
    refine WS.pcondT rfl rfl ?_
    refine jq ?_
    refine jg ?_
    refine WS.poA (tb := tb) rfl rfl rfl rfl rfl (by simp only [vcells, setL, ll, nl, nz, Nat.reduceAdd, Nat.reduceMul, Int.reduceToNat]; exact rfl) ?_
    refine WS.po0 (tb := tb) rfl rfl rfl rfl (step_H rfl rfl (evH_store rfl rfl rfl rfl rfl (Nat.zero_le _) rfl (by simp [vcells]) (Nat.le_of_ble_eq_true rfl))) ?_; rw [upd_mem _ rfl]; simp only [vcells, List.set_cons_zero, List.set_cons_succ, hz0]; (try simp only [setL, List.set_cons_zero, List.set_cons_succ])
    refine jo ?_
    refine je ?_
    refine WS.pret rfl ⟨.inr rfl, _, (resV2 (a := 2) (k := 3) (T := 30) (z := 39) rfl rfl rfl rfl rfl rfl), ?_⟩
    exact ⟨_, rfl, [0], [some ⟨cellsR (rwI .u8) I, 5, false⟩], .tup [.agg pgZ, .i .i64 1], ⟨rfl, rfl, (by simp [jVb, jOb, jMb, mapL_cellsR, okL_cellsR]), rfl⟩, rfl, ⟨okL_pgV _ _ _ _ _ _ _ _ _, trivial, trivial⟩, rfl, rfl⟩

theorem dec_err_t (I : List Int) (n c : Nat) (er : Int) (hb : Byt I) (hcap : n ≤ c) (hn : n ≤ I.length) (hl : I.length ≤ 9223372036854775807) (he : dErr (I.take n) = er) (h0 : ¬ er = 0) :
    FM Try.prog 10 [.sl (some (0,0)) n c true] [some ⟨cellsR (rwI .u8) I, 5, false⟩] (fun v M' => v = .tup [.agg (pgO (I.take n)), .i .i64 er] ∧ M' = [some ⟨cellsR (rwI .u8) I, 5, false⟩]) := by
  have hO : pgO (I.take n) = pgZ := by unfold pgO; rw [if_neg (by rw [he]; exact h0)]
  rw [hO]
  have hJ : (I.take n).length = n := by rw [List.length_take]; omega
  have hz0 : setL ((V.i .i64 0 :: V.i .u32 0 :: V.i .u32 0 :: V.i .u32 0 :: V.i .u32 0 :: V.i .u32 0 :: V.i .u32 0 :: V.i .u8 0 :: V.i .u8 0 :: V.i .u8 0 :: V.i .u8 0 :: V.i .u8 0 :: V.i .u8 0 :: V.i .u8 0 :: V.i .u8 0 :: V.i .u8 0 :: V.i .u8 0 :: V.i .u8 0 :: V.i .u8 0 :: V.i .u8 0 :: V.i .u8 0 :: V.i .u8 0 :: V.i .u8 0 :: V.i .u8 0 :: V.i .u8 0 :: V.i .u8 0 :: V.i .u8 0 :: V.i .u8 0 :: V.i .u8 0 :: V.i .u8 0 :: V.i .u8 0 :: V.i .u8 0 :: V.i .u8 0 :: V.i .u8 0 :: V.i .u8 0 :: V.i .u8 0 :: V.i .u8 0 :: V.i .u8 0 :: V.i .u8 0 :: []) : List V) 0 (V.i .i64 0 :: V.i .u32 0 :: V.i .u32 0 :: V.i .u32 0 :: V.i .u32 0 :: V.i .u32 0 :: V.i .u32 0 :: V.i .u8 0 :: V.i .u8 0 :: V.i .u8 0 :: V.i .u8 0 :: V.i .u8 0 :: V.i .u8 0 :: V.i .u8 0 :: V.i .u8 0 :: V.i .u8 0 :: V.i .u8 0 :: V.i .u8 0 :: V.i .u8 0 :: V.i .u8 0 :: V.i .u8 0 :: V.i .u8 0 :: V.i .u8 0 :: V.i .u8 0 :: V.i .u8 0 :: V.i .u8 0 :: V.i .u8 0 :: V.i .u8 0 :: V.i .u8 0 :: V.i .u8 0 :: V.i .u8 0 :: V.i .u8 0 :: V.i .u8 0 :: V.i .u8 0 :: V.i .u8 0 :: V.i .u8 0 :: V.i .u8 0 :: V.i .u8 0 :: V.i .u8 0 :: []) = (V.i .i64 0 :: V.i .u32 0 :: V.i .u32 0 :: V.i .u32 0 :: V.i .u32 0 :: V.i .u32 0 :: V.i .u32 0 :: V.i .u8 0 :: V.i .u8 0 :: V.i .u8 0 :: V.i .u8 0 :: V.i .u8 0 :: V.i .u8 0 :: V.i .u8 0 :: V.i .u8 0 :: V.i .u8 0 :: V.i .u8 0 :: V.i .u8 0 :: V.i .u8 0 :: V.i .u8 0 :: V.i .u8 0 :: V.i .u8 0 :: V.i .u8 0 :: V.i .u8 0 :: V.i .u8 0 :: V.i .u8 0 :: V.i .u8 0 :: V.i .u8 0 :: V.i .u8 0 :: V.i .u8 0 :: V.i .u8 0 :: V.i .u8 0 :: V.i .u8 0 :: V.i .u8 0 :: V.i .u8 0 :: V.i .u8 0 :: V.i .u8 0 :: V.i .u8 0 :: V.i .u8 0 :: []) := setL_whole rfl
  by_cases hn68 : n = 68
  · subst hn68
    have C := clean_walk I 68 c true hb hn hl
    by_cases hc : cleanB (I.take 68) = true
    · rw [hc] at C
      have e : er = 4 := by rw [← he]; unfold dErr; rw [if_neg (by omega), if_pos hc]
      subst e
      refine FM.pbodyV (tb := tb) (fn := Try.f10) rfl rfl ?_
      simp only [argS, Nat.reduceAdd, List.length_cons, List.length_nil]
      refine jq ?_
      refine jg ?_
      refine jn ?_
      refine jo ?_
      refine je ?_
      refine jq ?_
      refine WS.pblock rfl ?_
      refine jq ?_
      refine jg ?_
      iterate 2 refine jo ?_
      refine jB false ?_
      refine jo ?_
      refine je ?_
      refine WS.pcondF rfl rfl ?_
      refine jq ?_
      refine jg ?_
      refine jo ?_
      refine jc [0] C (by simp [jOb]) (by simp [jEb, jOb, jMb, mapL_cellsR, okL_cellsR]) ?_; rintro _ _ ⟨rfl, rfl⟩ -; simp only [jPg, jMb, ll, Nat.reduceAdd, Nat.reduceLT, Nat.zero_add, if_true, if_false, Nat.reduceSub, reduceIte, mapL_cellsR, Nat.lt_irrefl, Nat.not_lt_zero, Nat.zero_lt_succ, Nat.lt_add_one]
      refine jo ?_
      refine je ?_
      refine WS.pcondT rfl rfl ?_
      refine jq ?_
      refine jg ?_
      refine WS.poA (tb := tb) rfl rfl rfl rfl rfl (by simp only [vcells, setL, ll, nl, nz, Nat.reduceAdd, Nat.reduceMul, Int.reduceToNat]; exact rfl) ?_
      refine WS.po0 (tb := tb) rfl rfl rfl rfl (step_H rfl rfl (evH_store rfl rfl rfl rfl rfl (Nat.zero_le _) rfl (by simp [vcells]) (Nat.le_of_ble_eq_true rfl))) ?_; rw [upd_mem _ rfl]; simp only [vcells, List.set_cons_zero, List.set_cons_succ, hz0]; (try simp only [setL, List.set_cons_zero, List.set_cons_succ])
      refine jo ?_
      refine je ?_
      refine WS.pret rfl ⟨.inr rfl, _, (resV2 (a := 2) (k := 3) (T := 30) (z := 39) rfl rfl rfl rfl rfl rfl), ?_⟩
      exact ⟨_, rfl, [0], [some ⟨cellsR (rwI .u8) I, 5, false⟩], .tup [.agg pgZ, .i .i64 4], ⟨rfl, rfl, (by simp [jVb, jOb, jMb, mapL_cellsR, okL_cellsR]), rfl⟩, rfl, ⟨okL_pgV _ _ _ _ _ _ _ _ _, trivial, trivial⟩, rfl, rfl⟩
    · have hc' : cleanB (I.take 68) = false := by simpa using hc
      rw [hc'] at C
      have hm : (I.take 68).drop 64 = (I.drop 64).take 4 := by rw [List.drop_take]
      have hbm : Byt ((I.drop 64).take 4) := fun x hx => hb x (List.mem_of_mem_drop (List.mem_of_mem_take hx))
      have hsm := mark_str _ hbm
      by_cases h9 : (I.drop 64).take 4 = [68, 79, 78, 69]
      · have G := get_walk I 60 8 (c - 60) true hb (by omega) (by omega) hl
        have SW := sum_walk I 60 c true hb (by omega) hl
        have h9' : ((I.drop 64).take 4 == [68, 79, 78, 69]) = true := by simpa using h9
        rw [h9'] at hsm
        have e60 : ge4 (I.take 68) 60 = ge4 I 60 := ge4_take (by omega)
        have s60 : (I.take 68).take 60 = I.take 60 := by rw [List.take_take]; rfl
        by_cases h10 : ge4 I 60 = crcM 0 (I.take 60)
        · have hx0 := get_at (I := I) (i := 0) (by omega)
          have hx1 := get_at (I := I) (i := 1) (by omega)
          have hx2 := get_at (I := I) (i := 2) (by omega)
          have hx3 := get_at (I := I) (i := 3) (by omega)
          have hH : ¬ okH (I.take 68) ∧ er = 11 := by
            rw [← he]; unfold dErr
            rw [if_neg (by omega), if_neg hc, if_neg (by rw [hm]; exact fun z => z h9), if_neg (by rw [e60, s60]; exact fun z => z h10)]
            by_cases hz : okH (I.take 68)
            · refine absurd ?_ h0
              rw [← he]; unfold dErr
              rw [if_neg (by omega), if_neg hc, if_neg (by rw [hm]; exact fun z => z h9), if_neg (by rw [e60, s60]; exact fun z => z h10), if_neg (by simpa using hz)]
            · exact ⟨hz, if_pos hz⟩
          obtain ⟨hH, e⟩ := hH
          subst e
          unfold okH at hH
          rw [take_at (by omega), take_at (by omega), take_at (by omega), take_at (by omega)] at hH
          have hb0 := hb _ (List.mem_of_getElem? hx0)
          generalize I.getD 0 0 = k at *
          generalize I.getD 1 0 = b1 at *
          generalize I.getD 2 0 = b2 at *
          generalize I.getD 3 0 = b3 at *
          generalize ge4 I 60 = g at *
          generalize crcM 0 (I.take 60) = s at *
          by_cases hk : okK k
          · have K := kind_yes k hk
            by_cases h1 : b1 = 0
            · by_cases h2 : b2 = 0
              · have h3 : ¬ b3 = 0 := fun e => hH ⟨hk, h1, h2, e⟩
                refine FM.pbodyV (tb := tb) (fn := Try.f10) rfl rfl ?_
                simp only [argS, Nat.reduceAdd, List.length_cons, List.length_nil]
                refine jq ?_
                refine jg ?_
                refine jn ?_
                refine jo ?_
                refine je ?_
                refine jq ?_
                refine WS.pblock rfl ?_
                refine jq ?_
                refine jg ?_
                iterate 2 refine jo ?_
                refine jB false ?_
                refine jo ?_
                refine je ?_
                refine WS.pcondF rfl rfl ?_
                refine jq ?_
                refine jg ?_
                refine jo ?_
                refine jc [0] C (by simp [jOb]) (by simp [jEb, jOb, jMb, mapL_cellsR, okL_cellsR]) ?_; rintro _ _ ⟨rfl, rfl⟩ -; simp only [jPg, jMb, ll, Nat.reduceAdd, Nat.reduceLT, Nat.zero_add, if_true, if_false, Nat.reduceSub, reduceIte, mapL_cellsR, Nat.lt_irrefl, Nat.not_lt_zero, Nat.zero_lt_succ, Nat.lt_add_one]
                refine jo ?_
                refine je ?_
                refine WS.pcondF rfl rfl ?_
                refine jq ?_
                refine jg ?_
                refine jo ?_
                refine WS.poV (tb := tb) rfl rfl rfl rfl (step_P (evP_sliceO (a := 64) rfl rfl rfl rfl rfl rfl (by first | exact .inl ⟨rfl, rfl⟩ | exact .inr ⟨_, _, rfl, rfl⟩ | exact .inr ⟨_, _, rfl, by first | assumption | omega⟩ | exact .inr ⟨_, _, rfl, (Int.toNat_of_nonneg (by omega)).symm⟩) (by first | exact .inl ⟨rfl, rfl⟩ | exact .inr ⟨_, _, rfl, rfl⟩ | exact .inr ⟨_, _, rfl, by first | assumption | omega⟩ | exact .inr ⟨_, _, rfl, (Int.toNat_of_nonneg (by omega)).symm⟩) (by omega) (by omega) (by omega))) (by simp only [Int.toNat_natCast, Int.toNat_one, Int.toNat_zero, Int.reduceToNat, Nat.zero_mul, Nat.one_mul, Nat.sub_zero, Nat.add_sub_cancel, nl, nz, Nat.reduceAdd, Nat.reduceMul, Int.reduceToNat]; exact rfl) ?_
                refine WS.po (tb := tb) rfl rfl rfl rfl (step_R rfl (evR_str rfl rfl rfl rfl rfl (cellsAt_part (o := 64) (m := 4) rfl (by omega)) (by first | exact rfl | (simp only [vcells, List.length_cons, List.length_nil, cellsI_len, cellsB_len, List.length_set, List.length_replicate, List.length_append, List.length_map, List.length_take, List.length_drop] <;> omega) | omega))) ?_
                refine WS.poB (tb := tb) false rfl rfl rfl rfl rfl (by assumption) ?_
                refine jo ?_
                refine je ?_
                refine WS.pcondF rfl rfl ?_
                refine jq ?_
                refine WS.pdrawX (tb := tb) (by kernel_rfl) rfl (by kernel_rfl) ?_; (try refine WZ.keep (l := 0) rfl ?_)
                refine WZ.p (tb := tb) rfl rfl rfl rfl rfl ?_
                refine WZ.pV (tb := tb) rfl rfl rfl rfl (evP_sliceO (a := 60) rfl rfl rfl rfl rfl rfl (by first | exact .inl ⟨rfl, rfl⟩ | exact .inr ⟨_, _, rfl, rfl⟩ | exact .inr ⟨_, _, rfl, by first | assumption | omega⟩ | exact .inr ⟨_, _, rfl, (Int.toNat_of_nonneg (by omega)).symm⟩) (by first | exact .inl ⟨rfl, rfl⟩ | exact .inr ⟨_, _, rfl, rfl⟩ | exact .inr ⟨_, _, rfl, by first | assumption | omega⟩ | exact .inr ⟨_, _, rfl, (Int.toNat_of_nonneg (by omega)).symm⟩) (by omega) (by omega) (by omega)) (by simp only [Int.toNat_natCast, Int.toNat_one, Int.toNat_zero, Int.reduceToNat, Nat.zero_mul, Nat.one_mul, Nat.sub_zero, Nat.add_sub_cancel, nl, nz, Nat.reduceAdd, Nat.reduceMul, Int.reduceToNat]; exact rfl) ?_
                refine WZ.callM (tb := tb) [0] G rfl rfl rfl rfl rfl rfl rfl rfl (by (try simp only [mapL, mapV, ll]) <;> exact rfl) (by simp [okL, okV]; fail_if_success exfalso) rfl (by simp [embP, okL, okV, mapL, mapV, mem_next, mem_get, mem_ro, mapL_cellsR, okL_cellsR]; fail_if_success exfalso) rfl rfl rfl (by repeat (first | exact trivial | refine ⟨rfl, ?_⟩)) ?_; simp only [jPg, jMb, ll, Nat.reduceAdd, Nat.reduceLT, Nat.zero_add, if_true, if_false, Nat.reduceSub, reduceIte, mapL_cellsR, Nat.lt_irrefl, Nat.not_lt_zero, Nat.zero_lt_succ, Nat.lt_add_one]
                refine WZ.p (tb := tb) rfl rfl rfl rfl rfl ?_
                refine WZ.pV (tb := tb) rfl rfl rfl rfl (evP_sliceO (b := 60) rfl rfl rfl rfl rfl rfl (by first | exact .inl ⟨rfl, rfl⟩ | exact .inr ⟨_, _, rfl, rfl⟩ | exact .inr ⟨_, _, rfl, by first | assumption | omega⟩ | exact .inr ⟨_, _, rfl, (Int.toNat_of_nonneg (by omega)).symm⟩) (by first | exact .inl ⟨rfl, rfl⟩ | exact .inr ⟨_, _, rfl, rfl⟩ | exact .inr ⟨_, _, rfl, by first | assumption | omega⟩ | exact .inr ⟨_, _, rfl, (Int.toNat_of_nonneg (by omega)).symm⟩) (by omega) (by omega) (by omega)) (by simp only [Int.toNat_natCast, Int.toNat_one, Int.toNat_zero, Int.reduceToNat, Nat.zero_mul, Nat.one_mul, Nat.sub_zero, Nat.add_sub_cancel, nl, nz, Nat.reduceAdd, Nat.reduceMul, Int.reduceToNat]; exact rfl) ?_
                refine WZ.callM (tb := tb) [0] SW rfl rfl rfl rfl rfl rfl rfl rfl (by (try simp only [mapL, mapV, ll]) <;> exact rfl) (by simp [okL, okV]; fail_if_success exfalso) rfl (by simp [embP, okL, okV, mapL, mapV, mem_next, mem_get, mem_ro, mapL_cellsR, okL_cellsR]; fail_if_success exfalso) rfl rfl rfl (by repeat (first | exact trivial | refine ⟨rfl, ?_⟩)) ?_; simp only [jPg, jMb, ll, Nat.reduceAdd, Nat.reduceLT, Nat.zero_add, if_true, if_false, Nat.reduceSub, reduceIte, mapL_cellsR, Nat.lt_irrefl, Nat.not_lt_zero, Nat.zero_lt_succ, Nat.lt_add_one]
                refine WZ.pNF (tb := tb) rfl rfl rfl rfl rfl (by omega) ?_
                refine WZ.p (tb := tb) rfl rfl rfl rfl rfl ?_
                refine WZ.fin rfl (by kernel_rfl) (by repeat (first | exact trivial | refine ⟨rfl, ?_⟩)) ?_
                refine WS.pcondF rfl rfl ?_
                refine jq ?_
                refine jg ?_
                refine jo ?_
                refine WS.poP (tb := tb) rfl rfl rfl rfl (step_P (evP_index rfl rfl rfl rfl rfl rfl (by simp only [vcells, List.length_cons, List.length_nil, cellsI_len, cellsB_len, List.length_set, List.length_replicate, List.length_append, List.length_map, List.length_take, List.length_drop]; omega))) (by simp only [Nat.zero_add, Nat.add_zero, Nat.reduceAdd, Nat.reduceMul, Nat.add_assoc, Nat.mul_one]; exact rfl) ?_
                refine WS.po (tb := tb) rfl rfl rfl rfl (step_R rfl (evR_load rfl rfl rfl rfl (cellsR_get0 hx0 rfl))) ?_
                refine jW ?_
                refine jc [] K (by simp [jOb]) (by simp [jEb, jOb, jMb, mapL_cellsR, okL_cellsR]) ?_; rintro _ _ ⟨rfl, rfl⟩ -; simp only [jPg, jMb, ll, Nat.reduceAdd, Nat.reduceLT, Nat.zero_add, if_true, if_false, Nat.reduceSub, reduceIte, mapL_cellsR, Nat.lt_irrefl, Nat.not_lt_zero, Nat.zero_lt_succ, Nat.lt_add_one]
                refine jB false ?_
                iterate 2 refine jo ?_
                refine WS.poP (tb := tb) rfl rfl rfl rfl (step_P (evP_index rfl rfl rfl rfl rfl rfl (by simp only [vcells, List.length_cons, List.length_nil, cellsI_len, cellsB_len, List.length_set, List.length_replicate, List.length_append, List.length_map, List.length_take, List.length_drop]; omega))) (by simp only [Nat.zero_add, Nat.add_zero, Nat.reduceAdd, Nat.reduceMul, Nat.add_assoc, Nat.mul_one]; exact rfl) ?_
                refine WS.po (tb := tb) rfl rfl rfl rfl (step_R rfl (evR_load rfl rfl rfl rfl (cellsR_get0 hx1 rfl))) ?_
                refine jNF ?_
                iterate 3 refine jo ?_
                refine WS.poP (tb := tb) rfl rfl rfl rfl (step_P (evP_index rfl rfl rfl rfl rfl rfl (by simp only [vcells, List.length_cons, List.length_nil, cellsI_len, cellsB_len, List.length_set, List.length_replicate, List.length_append, List.length_map, List.length_take, List.length_drop]; omega))) (by simp only [Nat.zero_add, Nat.add_zero, Nat.reduceAdd, Nat.reduceMul, Nat.add_assoc, Nat.mul_one]; exact rfl) ?_
                refine WS.po (tb := tb) rfl rfl rfl rfl (step_R rfl (evR_load rfl rfl rfl rfl (cellsR_get0 hx2 rfl))) ?_
                refine jNF ?_
                iterate 3 refine jo ?_
                refine WS.poP (tb := tb) rfl rfl rfl rfl (step_P (evP_index rfl rfl rfl rfl rfl rfl (by simp only [vcells, List.length_cons, List.length_nil, cellsI_len, cellsB_len, List.length_set, List.length_replicate, List.length_append, List.length_map, List.length_take, List.length_drop]; omega))) (by simp only [Nat.zero_add, Nat.add_zero, Nat.reduceAdd, Nat.reduceMul, Nat.add_assoc, Nat.mul_one]; exact rfl) ?_
                refine WS.po (tb := tb) rfl rfl rfl rfl (step_R rfl (evR_load rfl rfl rfl rfl (cellsR_get0 hx3 rfl))) ?_
                refine jNT ?_
                iterate 2 refine jo ?_
                refine je ?_
                refine WS.pcondT rfl rfl ?_
                refine jq ?_
                refine jg ?_
                refine WS.poA (tb := tb) rfl rfl rfl rfl rfl (by simp only [vcells, setL, ll, nl, nz, Nat.reduceAdd, Nat.reduceMul, Int.reduceToNat]; exact rfl) ?_
                refine WS.po0 (tb := tb) rfl rfl rfl rfl (step_H rfl rfl (evH_store rfl rfl rfl rfl rfl (Nat.zero_le _) rfl (by simp [vcells]) (Nat.le_of_ble_eq_true rfl))) ?_; rw [upd_mem _ rfl]; simp only [vcells, List.set_cons_zero, List.set_cons_succ, hz0]; (try simp only [setL, List.set_cons_zero, List.set_cons_succ])
                refine jo ?_
                refine je ?_
                refine WS.pret rfl ⟨.inr rfl, _, (resV2 (a := 2) (k := 3) (T := 30) (z := 39) rfl rfl rfl rfl rfl rfl), ?_⟩
                exact ⟨_, rfl, [0], [some ⟨cellsR (rwI .u8) I, 5, false⟩], .tup [.agg pgZ, .i .i64 11], ⟨rfl, rfl, (by simp [jVb, jOb, jMb, mapL_cellsR, okL_cellsR]), rfl⟩, rfl, ⟨okL_pgV _ _ _ _ _ _ _ _ _, trivial, trivial⟩, rfl, rfl⟩
              · skip
                refine FM.pbodyV (tb := tb) (fn := Try.f10) rfl rfl ?_
                simp only [argS, Nat.reduceAdd, List.length_cons, List.length_nil]
                refine jq ?_
                refine jg ?_
                refine jn ?_
                refine jo ?_
                refine je ?_
                refine jq ?_
                refine WS.pblock rfl ?_
                refine jq ?_
                refine jg ?_
                iterate 2 refine jo ?_
                refine jB false ?_
                refine jo ?_
                refine je ?_
                refine WS.pcondF rfl rfl ?_
                refine jq ?_
                refine jg ?_
                refine jo ?_
                refine jc [0] C (by simp [jOb]) (by simp [jEb, jOb, jMb, mapL_cellsR, okL_cellsR]) ?_; rintro _ _ ⟨rfl, rfl⟩ -; simp only [jPg, jMb, ll, Nat.reduceAdd, Nat.reduceLT, Nat.zero_add, if_true, if_false, Nat.reduceSub, reduceIte, mapL_cellsR, Nat.lt_irrefl, Nat.not_lt_zero, Nat.zero_lt_succ, Nat.lt_add_one]
                refine jo ?_
                refine je ?_
                refine WS.pcondF rfl rfl ?_
                refine jq ?_
                refine jg ?_
                refine jo ?_
                refine WS.poV (tb := tb) rfl rfl rfl rfl (step_P (evP_sliceO (a := 64) rfl rfl rfl rfl rfl rfl (by first | exact .inl ⟨rfl, rfl⟩ | exact .inr ⟨_, _, rfl, rfl⟩ | exact .inr ⟨_, _, rfl, by first | assumption | omega⟩ | exact .inr ⟨_, _, rfl, (Int.toNat_of_nonneg (by omega)).symm⟩) (by first | exact .inl ⟨rfl, rfl⟩ | exact .inr ⟨_, _, rfl, rfl⟩ | exact .inr ⟨_, _, rfl, by first | assumption | omega⟩ | exact .inr ⟨_, _, rfl, (Int.toNat_of_nonneg (by omega)).symm⟩) (by omega) (by omega) (by omega))) (by simp only [Int.toNat_natCast, Int.toNat_one, Int.toNat_zero, Int.reduceToNat, Nat.zero_mul, Nat.one_mul, Nat.sub_zero, Nat.add_sub_cancel, nl, nz, Nat.reduceAdd, Nat.reduceMul, Int.reduceToNat]; exact rfl) ?_
                refine WS.po (tb := tb) rfl rfl rfl rfl (step_R rfl (evR_str rfl rfl rfl rfl rfl (cellsAt_part (o := 64) (m := 4) rfl (by omega)) (by first | exact rfl | (simp only [vcells, List.length_cons, List.length_nil, cellsI_len, cellsB_len, List.length_set, List.length_replicate, List.length_append, List.length_map, List.length_take, List.length_drop] <;> omega) | omega))) ?_
                refine WS.poB (tb := tb) false rfl rfl rfl rfl rfl (by assumption) ?_
                refine jo ?_
                refine je ?_
                refine WS.pcondF rfl rfl ?_
                refine jq ?_
                refine WS.pdrawX (tb := tb) (by kernel_rfl) rfl (by kernel_rfl) ?_; (try refine WZ.keep (l := 0) rfl ?_)
                refine WZ.p (tb := tb) rfl rfl rfl rfl rfl ?_
                refine WZ.pV (tb := tb) rfl rfl rfl rfl (evP_sliceO (a := 60) rfl rfl rfl rfl rfl rfl (by first | exact .inl ⟨rfl, rfl⟩ | exact .inr ⟨_, _, rfl, rfl⟩ | exact .inr ⟨_, _, rfl, by first | assumption | omega⟩ | exact .inr ⟨_, _, rfl, (Int.toNat_of_nonneg (by omega)).symm⟩) (by first | exact .inl ⟨rfl, rfl⟩ | exact .inr ⟨_, _, rfl, rfl⟩ | exact .inr ⟨_, _, rfl, by first | assumption | omega⟩ | exact .inr ⟨_, _, rfl, (Int.toNat_of_nonneg (by omega)).symm⟩) (by omega) (by omega) (by omega)) (by simp only [Int.toNat_natCast, Int.toNat_one, Int.toNat_zero, Int.reduceToNat, Nat.zero_mul, Nat.one_mul, Nat.sub_zero, Nat.add_sub_cancel, nl, nz, Nat.reduceAdd, Nat.reduceMul, Int.reduceToNat]; exact rfl) ?_
                refine WZ.callM (tb := tb) [0] G rfl rfl rfl rfl rfl rfl rfl rfl (by (try simp only [mapL, mapV, ll]) <;> exact rfl) (by simp [okL, okV]; fail_if_success exfalso) rfl (by simp [embP, okL, okV, mapL, mapV, mem_next, mem_get, mem_ro, mapL_cellsR, okL_cellsR]; fail_if_success exfalso) rfl rfl rfl (by repeat (first | exact trivial | refine ⟨rfl, ?_⟩)) ?_; simp only [jPg, jMb, ll, Nat.reduceAdd, Nat.reduceLT, Nat.zero_add, if_true, if_false, Nat.reduceSub, reduceIte, mapL_cellsR, Nat.lt_irrefl, Nat.not_lt_zero, Nat.zero_lt_succ, Nat.lt_add_one]
                refine WZ.p (tb := tb) rfl rfl rfl rfl rfl ?_
                refine WZ.pV (tb := tb) rfl rfl rfl rfl (evP_sliceO (b := 60) rfl rfl rfl rfl rfl rfl (by first | exact .inl ⟨rfl, rfl⟩ | exact .inr ⟨_, _, rfl, rfl⟩ | exact .inr ⟨_, _, rfl, by first | assumption | omega⟩ | exact .inr ⟨_, _, rfl, (Int.toNat_of_nonneg (by omega)).symm⟩) (by first | exact .inl ⟨rfl, rfl⟩ | exact .inr ⟨_, _, rfl, rfl⟩ | exact .inr ⟨_, _, rfl, by first | assumption | omega⟩ | exact .inr ⟨_, _, rfl, (Int.toNat_of_nonneg (by omega)).symm⟩) (by omega) (by omega) (by omega)) (by simp only [Int.toNat_natCast, Int.toNat_one, Int.toNat_zero, Int.reduceToNat, Nat.zero_mul, Nat.one_mul, Nat.sub_zero, Nat.add_sub_cancel, nl, nz, Nat.reduceAdd, Nat.reduceMul, Int.reduceToNat]; exact rfl) ?_
                refine WZ.callM (tb := tb) [0] SW rfl rfl rfl rfl rfl rfl rfl rfl (by (try simp only [mapL, mapV, ll]) <;> exact rfl) (by simp [okL, okV]; fail_if_success exfalso) rfl (by simp [embP, okL, okV, mapL, mapV, mem_next, mem_get, mem_ro, mapL_cellsR, okL_cellsR]; fail_if_success exfalso) rfl rfl rfl (by repeat (first | exact trivial | refine ⟨rfl, ?_⟩)) ?_; simp only [jPg, jMb, ll, Nat.reduceAdd, Nat.reduceLT, Nat.zero_add, if_true, if_false, Nat.reduceSub, reduceIte, mapL_cellsR, Nat.lt_irrefl, Nat.not_lt_zero, Nat.zero_lt_succ, Nat.lt_add_one]
                refine WZ.pNF (tb := tb) rfl rfl rfl rfl rfl (by omega) ?_
                refine WZ.p (tb := tb) rfl rfl rfl rfl rfl ?_
                refine WZ.fin rfl (by kernel_rfl) (by repeat (first | exact trivial | refine ⟨rfl, ?_⟩)) ?_
                refine WS.pcondF rfl rfl ?_
                refine jq ?_
                refine jg ?_
                refine jo ?_
                refine WS.poP (tb := tb) rfl rfl rfl rfl (step_P (evP_index rfl rfl rfl rfl rfl rfl (by simp only [vcells, List.length_cons, List.length_nil, cellsI_len, cellsB_len, List.length_set, List.length_replicate, List.length_append, List.length_map, List.length_take, List.length_drop]; omega))) (by simp only [Nat.zero_add, Nat.add_zero, Nat.reduceAdd, Nat.reduceMul, Nat.add_assoc, Nat.mul_one]; exact rfl) ?_
                refine WS.po (tb := tb) rfl rfl rfl rfl (step_R rfl (evR_load rfl rfl rfl rfl (cellsR_get0 hx0 rfl))) ?_
                refine jW ?_
                refine jc [] K (by simp [jOb]) (by simp [jEb, jOb, jMb, mapL_cellsR, okL_cellsR]) ?_; rintro _ _ ⟨rfl, rfl⟩ -; simp only [jPg, jMb, ll, Nat.reduceAdd, Nat.reduceLT, Nat.zero_add, if_true, if_false, Nat.reduceSub, reduceIte, mapL_cellsR, Nat.lt_irrefl, Nat.not_lt_zero, Nat.zero_lt_succ, Nat.lt_add_one]
                refine jB false ?_
                iterate 2 refine jo ?_
                refine WS.poP (tb := tb) rfl rfl rfl rfl (step_P (evP_index rfl rfl rfl rfl rfl rfl (by simp only [vcells, List.length_cons, List.length_nil, cellsI_len, cellsB_len, List.length_set, List.length_replicate, List.length_append, List.length_map, List.length_take, List.length_drop]; omega))) (by simp only [Nat.zero_add, Nat.add_zero, Nat.reduceAdd, Nat.reduceMul, Nat.add_assoc, Nat.mul_one]; exact rfl) ?_
                refine WS.po (tb := tb) rfl rfl rfl rfl (step_R rfl (evR_load rfl rfl rfl rfl (cellsR_get0 hx1 rfl))) ?_
                refine jNF ?_
                iterate 3 refine jo ?_
                refine WS.poP (tb := tb) rfl rfl rfl rfl (step_P (evP_index rfl rfl rfl rfl rfl rfl (by simp only [vcells, List.length_cons, List.length_nil, cellsI_len, cellsB_len, List.length_set, List.length_replicate, List.length_append, List.length_map, List.length_take, List.length_drop]; omega))) (by simp only [Nat.zero_add, Nat.add_zero, Nat.reduceAdd, Nat.reduceMul, Nat.add_assoc, Nat.mul_one]; exact rfl) ?_
                refine WS.po (tb := tb) rfl rfl rfl rfl (step_R rfl (evR_load rfl rfl rfl rfl (cellsR_get0 hx2 rfl))) ?_
                refine jNT ?_
                iterate 2 refine jo ?_
                iterate 4 refine jN ?_
                iterate 2 refine jo ?_
                refine je ?_
                refine WS.pcondT rfl rfl ?_
                refine jq ?_
                refine jg ?_
                refine WS.poA (tb := tb) rfl rfl rfl rfl rfl (by simp only [vcells, setL, ll, nl, nz, Nat.reduceAdd, Nat.reduceMul, Int.reduceToNat]; exact rfl) ?_
                refine WS.po0 (tb := tb) rfl rfl rfl rfl (step_H rfl rfl (evH_store rfl rfl rfl rfl rfl (Nat.zero_le _) rfl (by simp [vcells]) (Nat.le_of_ble_eq_true rfl))) ?_; rw [upd_mem _ rfl]; simp only [vcells, List.set_cons_zero, List.set_cons_succ, hz0]; (try simp only [setL, List.set_cons_zero, List.set_cons_succ])
                refine jo ?_
                refine je ?_
                refine WS.pret rfl ⟨.inr rfl, _, (resV2 (a := 2) (k := 3) (T := 30) (z := 39) rfl rfl rfl rfl rfl rfl), ?_⟩
                exact ⟨_, rfl, [0], [some ⟨cellsR (rwI .u8) I, 5, false⟩], .tup [.agg pgZ, .i .i64 11], ⟨rfl, rfl, (by simp [jVb, jOb, jMb, mapL_cellsR, okL_cellsR]), rfl⟩, rfl, ⟨okL_pgV _ _ _ _ _ _ _ _ _, trivial, trivial⟩, rfl, rfl⟩
            · skip
              refine FM.pbodyV (tb := tb) (fn := Try.f10) rfl rfl ?_
              simp only [argS, Nat.reduceAdd, List.length_cons, List.length_nil]
              refine jq ?_
              refine jg ?_
              refine jn ?_
              refine jo ?_
              refine je ?_
              refine jq ?_
              refine WS.pblock rfl ?_
              refine jq ?_
              refine jg ?_
              iterate 2 refine jo ?_
              refine jB false ?_
              refine jo ?_
              refine je ?_
              refine WS.pcondF rfl rfl ?_
              refine jq ?_
              refine jg ?_
              refine jo ?_
              refine jc [0] C (by simp [jOb]) (by simp [jEb, jOb, jMb, mapL_cellsR, okL_cellsR]) ?_; rintro _ _ ⟨rfl, rfl⟩ -; simp only [jPg, jMb, ll, Nat.reduceAdd, Nat.reduceLT, Nat.zero_add, if_true, if_false, Nat.reduceSub, reduceIte, mapL_cellsR, Nat.lt_irrefl, Nat.not_lt_zero, Nat.zero_lt_succ, Nat.lt_add_one]
              refine jo ?_
              refine je ?_
              refine WS.pcondF rfl rfl ?_
              refine jq ?_
              refine jg ?_
              refine jo ?_
              refine WS.poV (tb := tb) rfl rfl rfl rfl (step_P (evP_sliceO (a := 64) rfl rfl rfl rfl rfl rfl (by first | exact .inl ⟨rfl, rfl⟩ | exact .inr ⟨_, _, rfl, rfl⟩ | exact .inr ⟨_, _, rfl, by first | assumption | omega⟩ | exact .inr ⟨_, _, rfl, (Int.toNat_of_nonneg (by omega)).symm⟩) (by first | exact .inl ⟨rfl, rfl⟩ | exact .inr ⟨_, _, rfl, rfl⟩ | exact .inr ⟨_, _, rfl, by first | assumption | omega⟩ | exact .inr ⟨_, _, rfl, (Int.toNat_of_nonneg (by omega)).symm⟩) (by omega) (by omega) (by omega))) (by simp only [Int.toNat_natCast, Int.toNat_one, Int.toNat_zero, Int.reduceToNat, Nat.zero_mul, Nat.one_mul, Nat.sub_zero, Nat.add_sub_cancel, nl, nz, Nat.reduceAdd, Nat.reduceMul, Int.reduceToNat]; exact rfl) ?_
              refine WS.po (tb := tb) rfl rfl rfl rfl (step_R rfl (evR_str rfl rfl rfl rfl rfl (cellsAt_part (o := 64) (m := 4) rfl (by omega)) (by first | exact rfl | (simp only [vcells, List.length_cons, List.length_nil, cellsI_len, cellsB_len, List.length_set, List.length_replicate, List.length_append, List.length_map, List.length_take, List.length_drop] <;> omega) | omega))) ?_
              refine WS.poB (tb := tb) false rfl rfl rfl rfl rfl (by assumption) ?_
              refine jo ?_
              refine je ?_
              refine WS.pcondF rfl rfl ?_
              refine jq ?_
              refine WS.pdrawX (tb := tb) (by kernel_rfl) rfl (by kernel_rfl) ?_; (try refine WZ.keep (l := 0) rfl ?_)
              refine WZ.p (tb := tb) rfl rfl rfl rfl rfl ?_
              refine WZ.pV (tb := tb) rfl rfl rfl rfl (evP_sliceO (a := 60) rfl rfl rfl rfl rfl rfl (by first | exact .inl ⟨rfl, rfl⟩ | exact .inr ⟨_, _, rfl, rfl⟩ | exact .inr ⟨_, _, rfl, by first | assumption | omega⟩ | exact .inr ⟨_, _, rfl, (Int.toNat_of_nonneg (by omega)).symm⟩) (by first | exact .inl ⟨rfl, rfl⟩ | exact .inr ⟨_, _, rfl, rfl⟩ | exact .inr ⟨_, _, rfl, by first | assumption | omega⟩ | exact .inr ⟨_, _, rfl, (Int.toNat_of_nonneg (by omega)).symm⟩) (by omega) (by omega) (by omega)) (by simp only [Int.toNat_natCast, Int.toNat_one, Int.toNat_zero, Int.reduceToNat, Nat.zero_mul, Nat.one_mul, Nat.sub_zero, Nat.add_sub_cancel, nl, nz, Nat.reduceAdd, Nat.reduceMul, Int.reduceToNat]; exact rfl) ?_
              refine WZ.callM (tb := tb) [0] G rfl rfl rfl rfl rfl rfl rfl rfl (by (try simp only [mapL, mapV, ll]) <;> exact rfl) (by simp [okL, okV]; fail_if_success exfalso) rfl (by simp [embP, okL, okV, mapL, mapV, mem_next, mem_get, mem_ro, mapL_cellsR, okL_cellsR]; fail_if_success exfalso) rfl rfl rfl (by repeat (first | exact trivial | refine ⟨rfl, ?_⟩)) ?_; simp only [jPg, jMb, ll, Nat.reduceAdd, Nat.reduceLT, Nat.zero_add, if_true, if_false, Nat.reduceSub, reduceIte, mapL_cellsR, Nat.lt_irrefl, Nat.not_lt_zero, Nat.zero_lt_succ, Nat.lt_add_one]
              refine WZ.p (tb := tb) rfl rfl rfl rfl rfl ?_
              refine WZ.pV (tb := tb) rfl rfl rfl rfl (evP_sliceO (b := 60) rfl rfl rfl rfl rfl rfl (by first | exact .inl ⟨rfl, rfl⟩ | exact .inr ⟨_, _, rfl, rfl⟩ | exact .inr ⟨_, _, rfl, by first | assumption | omega⟩ | exact .inr ⟨_, _, rfl, (Int.toNat_of_nonneg (by omega)).symm⟩) (by first | exact .inl ⟨rfl, rfl⟩ | exact .inr ⟨_, _, rfl, rfl⟩ | exact .inr ⟨_, _, rfl, by first | assumption | omega⟩ | exact .inr ⟨_, _, rfl, (Int.toNat_of_nonneg (by omega)).symm⟩) (by omega) (by omega) (by omega)) (by simp only [Int.toNat_natCast, Int.toNat_one, Int.toNat_zero, Int.reduceToNat, Nat.zero_mul, Nat.one_mul, Nat.sub_zero, Nat.add_sub_cancel, nl, nz, Nat.reduceAdd, Nat.reduceMul, Int.reduceToNat]; exact rfl) ?_
              refine WZ.callM (tb := tb) [0] SW rfl rfl rfl rfl rfl rfl rfl rfl (by (try simp only [mapL, mapV, ll]) <;> exact rfl) (by simp [okL, okV]; fail_if_success exfalso) rfl (by simp [embP, okL, okV, mapL, mapV, mem_next, mem_get, mem_ro, mapL_cellsR, okL_cellsR]; fail_if_success exfalso) rfl rfl rfl (by repeat (first | exact trivial | refine ⟨rfl, ?_⟩)) ?_; simp only [jPg, jMb, ll, Nat.reduceAdd, Nat.reduceLT, Nat.zero_add, if_true, if_false, Nat.reduceSub, reduceIte, mapL_cellsR, Nat.lt_irrefl, Nat.not_lt_zero, Nat.zero_lt_succ, Nat.lt_add_one]
              refine WZ.pNF (tb := tb) rfl rfl rfl rfl rfl (by omega) ?_
              refine WZ.p (tb := tb) rfl rfl rfl rfl rfl ?_
              refine WZ.fin rfl (by kernel_rfl) (by repeat (first | exact trivial | refine ⟨rfl, ?_⟩)) ?_
              refine WS.pcondF rfl rfl ?_
              refine jq ?_
              refine jg ?_
              refine jo ?_
              refine WS.poP (tb := tb) rfl rfl rfl rfl (step_P (evP_index rfl rfl rfl rfl rfl rfl (by simp only [vcells, List.length_cons, List.length_nil, cellsI_len, cellsB_len, List.length_set, List.length_replicate, List.length_append, List.length_map, List.length_take, List.length_drop]; omega))) (by simp only [Nat.zero_add, Nat.add_zero, Nat.reduceAdd, Nat.reduceMul, Nat.add_assoc, Nat.mul_one]; exact rfl) ?_
              refine WS.po (tb := tb) rfl rfl rfl rfl (step_R rfl (evR_load rfl rfl rfl rfl (cellsR_get0 hx0 rfl))) ?_
              refine jW ?_
              refine jc [] K (by simp [jOb]) (by simp [jEb, jOb, jMb, mapL_cellsR, okL_cellsR]) ?_; rintro _ _ ⟨rfl, rfl⟩ -; simp only [jPg, jMb, ll, Nat.reduceAdd, Nat.reduceLT, Nat.zero_add, if_true, if_false, Nat.reduceSub, reduceIte, mapL_cellsR, Nat.lt_irrefl, Nat.not_lt_zero, Nat.zero_lt_succ, Nat.lt_add_one]
              refine jB false ?_
              iterate 2 refine jo ?_
              refine WS.poP (tb := tb) rfl rfl rfl rfl (step_P (evP_index rfl rfl rfl rfl rfl rfl (by simp only [vcells, List.length_cons, List.length_nil, cellsI_len, cellsB_len, List.length_set, List.length_replicate, List.length_append, List.length_map, List.length_take, List.length_drop]; omega))) (by simp only [Nat.zero_add, Nat.add_zero, Nat.reduceAdd, Nat.reduceMul, Nat.add_assoc, Nat.mul_one]; exact rfl) ?_
              refine WS.po (tb := tb) rfl rfl rfl rfl (step_R rfl (evR_load rfl rfl rfl rfl (cellsR_get0 hx1 rfl))) ?_
              refine jNT ?_
              iterate 2 refine jo ?_
              iterate 4 refine jN ?_
              iterate 2 refine jo ?_
              iterate 4 refine jN ?_
              iterate 2 refine jo ?_
              refine je ?_
              refine WS.pcondT rfl rfl ?_
              refine jq ?_
              refine jg ?_
              refine WS.poA (tb := tb) rfl rfl rfl rfl rfl (by simp only [vcells, setL, ll, nl, nz, Nat.reduceAdd, Nat.reduceMul, Int.reduceToNat]; exact rfl) ?_
              refine WS.po0 (tb := tb) rfl rfl rfl rfl (step_H rfl rfl (evH_store rfl rfl rfl rfl rfl (Nat.zero_le _) rfl (by simp [vcells]) (Nat.le_of_ble_eq_true rfl))) ?_; rw [upd_mem _ rfl]; simp only [vcells, List.set_cons_zero, List.set_cons_succ, hz0]; (try simp only [setL, List.set_cons_zero, List.set_cons_succ])
              refine jo ?_
              refine je ?_
              refine WS.pret rfl ⟨.inr rfl, _, (resV2 (a := 2) (k := 3) (T := 30) (z := 39) rfl rfl rfl rfl rfl rfl), ?_⟩
              exact ⟨_, rfl, [0], [some ⟨cellsR (rwI .u8) I, 5, false⟩], .tup [.agg pgZ, .i .i64 11], ⟨rfl, rfl, (by simp [jVb, jOb, jMb, mapL_cellsR, okL_cellsR]), rfl⟩, rfl, ⟨okL_pgV _ _ _ _ _ _ _ _ _, trivial, trivial⟩, rfl, rfl⟩
          · have K := kind_no k hk
            refine FM.pbodyV (tb := tb) (fn := Try.f10) rfl rfl ?_
            simp only [argS, Nat.reduceAdd, List.length_cons, List.length_nil]
            refine jq ?_
            refine jg ?_
            refine jn ?_
            refine jo ?_
            refine je ?_
            refine jq ?_
            refine WS.pblock rfl ?_
            refine jq ?_
            refine jg ?_
            iterate 2 refine jo ?_
            refine jB false ?_
            refine jo ?_
            refine je ?_
            refine WS.pcondF rfl rfl ?_
            refine jq ?_
            refine jg ?_
            refine jo ?_
            refine jc [0] C (by simp [jOb]) (by simp [jEb, jOb, jMb, mapL_cellsR, okL_cellsR]) ?_; rintro _ _ ⟨rfl, rfl⟩ -; simp only [jPg, jMb, ll, Nat.reduceAdd, Nat.reduceLT, Nat.zero_add, if_true, if_false, Nat.reduceSub, reduceIte, mapL_cellsR, Nat.lt_irrefl, Nat.not_lt_zero, Nat.zero_lt_succ, Nat.lt_add_one]
            refine jo ?_
            refine je ?_
            refine WS.pcondF rfl rfl ?_
            refine jq ?_
            refine jg ?_
            refine jo ?_
            refine WS.poV (tb := tb) rfl rfl rfl rfl (step_P (evP_sliceO (a := 64) rfl rfl rfl rfl rfl rfl (by first | exact .inl ⟨rfl, rfl⟩ | exact .inr ⟨_, _, rfl, rfl⟩ | exact .inr ⟨_, _, rfl, by first | assumption | omega⟩ | exact .inr ⟨_, _, rfl, (Int.toNat_of_nonneg (by omega)).symm⟩) (by first | exact .inl ⟨rfl, rfl⟩ | exact .inr ⟨_, _, rfl, rfl⟩ | exact .inr ⟨_, _, rfl, by first | assumption | omega⟩ | exact .inr ⟨_, _, rfl, (Int.toNat_of_nonneg (by omega)).symm⟩) (by omega) (by omega) (by omega))) (by simp only [Int.toNat_natCast, Int.toNat_one, Int.toNat_zero, Int.reduceToNat, Nat.zero_mul, Nat.one_mul, Nat.sub_zero, Nat.add_sub_cancel, nl, nz, Nat.reduceAdd, Nat.reduceMul, Int.reduceToNat]; exact rfl) ?_
            refine WS.po (tb := tb) rfl rfl rfl rfl (step_R rfl (evR_str rfl rfl rfl rfl rfl (cellsAt_part (o := 64) (m := 4) rfl (by omega)) (by first | exact rfl | (simp only [vcells, List.length_cons, List.length_nil, cellsI_len, cellsB_len, List.length_set, List.length_replicate, List.length_append, List.length_map, List.length_take, List.length_drop] <;> omega) | omega))) ?_
            refine WS.poB (tb := tb) false rfl rfl rfl rfl rfl (by assumption) ?_
            refine jo ?_
            refine je ?_
            refine WS.pcondF rfl rfl ?_
            refine jq ?_
            refine WS.pdrawX (tb := tb) (by kernel_rfl) rfl (by kernel_rfl) ?_; (try refine WZ.keep (l := 0) rfl ?_)
            refine WZ.p (tb := tb) rfl rfl rfl rfl rfl ?_
            refine WZ.pV (tb := tb) rfl rfl rfl rfl (evP_sliceO (a := 60) rfl rfl rfl rfl rfl rfl (by first | exact .inl ⟨rfl, rfl⟩ | exact .inr ⟨_, _, rfl, rfl⟩ | exact .inr ⟨_, _, rfl, by first | assumption | omega⟩ | exact .inr ⟨_, _, rfl, (Int.toNat_of_nonneg (by omega)).symm⟩) (by first | exact .inl ⟨rfl, rfl⟩ | exact .inr ⟨_, _, rfl, rfl⟩ | exact .inr ⟨_, _, rfl, by first | assumption | omega⟩ | exact .inr ⟨_, _, rfl, (Int.toNat_of_nonneg (by omega)).symm⟩) (by omega) (by omega) (by omega)) (by simp only [Int.toNat_natCast, Int.toNat_one, Int.toNat_zero, Int.reduceToNat, Nat.zero_mul, Nat.one_mul, Nat.sub_zero, Nat.add_sub_cancel, nl, nz, Nat.reduceAdd, Nat.reduceMul, Int.reduceToNat]; exact rfl) ?_
            refine WZ.callM (tb := tb) [0] G rfl rfl rfl rfl rfl rfl rfl rfl (by (try simp only [mapL, mapV, ll]) <;> exact rfl) (by simp [okL, okV]; fail_if_success exfalso) rfl (by simp [embP, okL, okV, mapL, mapV, mem_next, mem_get, mem_ro, mapL_cellsR, okL_cellsR]; fail_if_success exfalso) rfl rfl rfl (by repeat (first | exact trivial | refine ⟨rfl, ?_⟩)) ?_; simp only [jPg, jMb, ll, Nat.reduceAdd, Nat.reduceLT, Nat.zero_add, if_true, if_false, Nat.reduceSub, reduceIte, mapL_cellsR, Nat.lt_irrefl, Nat.not_lt_zero, Nat.zero_lt_succ, Nat.lt_add_one]
            refine WZ.p (tb := tb) rfl rfl rfl rfl rfl ?_
            refine WZ.pV (tb := tb) rfl rfl rfl rfl (evP_sliceO (b := 60) rfl rfl rfl rfl rfl rfl (by first | exact .inl ⟨rfl, rfl⟩ | exact .inr ⟨_, _, rfl, rfl⟩ | exact .inr ⟨_, _, rfl, by first | assumption | omega⟩ | exact .inr ⟨_, _, rfl, (Int.toNat_of_nonneg (by omega)).symm⟩) (by first | exact .inl ⟨rfl, rfl⟩ | exact .inr ⟨_, _, rfl, rfl⟩ | exact .inr ⟨_, _, rfl, by first | assumption | omega⟩ | exact .inr ⟨_, _, rfl, (Int.toNat_of_nonneg (by omega)).symm⟩) (by omega) (by omega) (by omega)) (by simp only [Int.toNat_natCast, Int.toNat_one, Int.toNat_zero, Int.reduceToNat, Nat.zero_mul, Nat.one_mul, Nat.sub_zero, Nat.add_sub_cancel, nl, nz, Nat.reduceAdd, Nat.reduceMul, Int.reduceToNat]; exact rfl) ?_
            refine WZ.callM (tb := tb) [0] SW rfl rfl rfl rfl rfl rfl rfl rfl (by (try simp only [mapL, mapV, ll]) <;> exact rfl) (by simp [okL, okV]; fail_if_success exfalso) rfl (by simp [embP, okL, okV, mapL, mapV, mem_next, mem_get, mem_ro, mapL_cellsR, okL_cellsR]; fail_if_success exfalso) rfl rfl rfl (by repeat (first | exact trivial | refine ⟨rfl, ?_⟩)) ?_; simp only [jPg, jMb, ll, Nat.reduceAdd, Nat.reduceLT, Nat.zero_add, if_true, if_false, Nat.reduceSub, reduceIte, mapL_cellsR, Nat.lt_irrefl, Nat.not_lt_zero, Nat.zero_lt_succ, Nat.lt_add_one]
            refine WZ.pNF (tb := tb) rfl rfl rfl rfl rfl (by omega) ?_
            refine WZ.p (tb := tb) rfl rfl rfl rfl rfl ?_
            refine WZ.fin rfl (by kernel_rfl) (by repeat (first | exact trivial | refine ⟨rfl, ?_⟩)) ?_
            refine WS.pcondF rfl rfl ?_
            refine jq ?_
            refine jg ?_
            refine jo ?_
            refine WS.poP (tb := tb) rfl rfl rfl rfl (step_P (evP_index rfl rfl rfl rfl rfl rfl (by simp only [vcells, List.length_cons, List.length_nil, cellsI_len, cellsB_len, List.length_set, List.length_replicate, List.length_append, List.length_map, List.length_take, List.length_drop]; omega))) (by simp only [Nat.zero_add, Nat.add_zero, Nat.reduceAdd, Nat.reduceMul, Nat.add_assoc, Nat.mul_one]; exact rfl) ?_
            refine WS.po (tb := tb) rfl rfl rfl rfl (step_R rfl (evR_load rfl rfl rfl rfl (cellsR_get0 hx0 rfl))) ?_
            refine jW ?_
            refine jc [] K (by simp [jOb]) (by simp [jEb, jOb, jMb, mapL_cellsR, okL_cellsR]) ?_; rintro _ _ ⟨rfl, rfl⟩ -; simp only [jPg, jMb, ll, Nat.reduceAdd, Nat.reduceLT, Nat.zero_add, if_true, if_false, Nat.reduceSub, reduceIte, mapL_cellsR, Nat.lt_irrefl, Nat.not_lt_zero, Nat.zero_lt_succ, Nat.lt_add_one]
            refine jB true ?_
            refine jo ?_
            iterate 4 refine jN ?_
            iterate 2 refine jo ?_
            iterate 4 refine jN ?_
            iterate 2 refine jo ?_
            iterate 4 refine jN ?_
            iterate 2 refine jo ?_
            refine je ?_
            refine WS.pcondT rfl rfl ?_
            refine jq ?_
            refine jg ?_
            refine WS.poA (tb := tb) rfl rfl rfl rfl rfl (by simp only [vcells, setL, ll, nl, nz, Nat.reduceAdd, Nat.reduceMul, Int.reduceToNat]; exact rfl) ?_
            refine WS.po0 (tb := tb) rfl rfl rfl rfl (step_H rfl rfl (evH_store rfl rfl rfl rfl rfl (Nat.zero_le _) rfl (by simp [vcells]) (Nat.le_of_ble_eq_true rfl))) ?_; rw [upd_mem _ rfl]; simp only [vcells, List.set_cons_zero, List.set_cons_succ, hz0]; (try simp only [setL, List.set_cons_zero, List.set_cons_succ])
            refine jo ?_
            refine je ?_
            refine WS.pret rfl ⟨.inr rfl, _, (resV2 (a := 2) (k := 3) (T := 30) (z := 39) rfl rfl rfl rfl rfl rfl), ?_⟩
            exact ⟨_, rfl, [0], [some ⟨cellsR (rwI .u8) I, 5, false⟩], .tup [.agg pgZ, .i .i64 11], ⟨rfl, rfl, (by simp [jVb, jOb, jMb, mapL_cellsR, okL_cellsR]), rfl⟩, rfl, ⟨okL_pgV _ _ _ _ _ _ _ _ _, trivial, trivial⟩, rfl, rfl⟩
        · have e : er = 10 := by
            rw [← he]; unfold dErr
            rw [if_neg (by omega), if_neg hc, if_neg (by rw [hm]; exact fun z => z h9), if_pos (by rw [e60, s60]; exact h10)]
          subst e
          generalize ge4 I 60 = g at *
          generalize crcM 0 (I.take 60) = s at *
          refine FM.pbodyV (tb := tb) (fn := Try.f10) rfl rfl ?_
          simp only [argS, Nat.reduceAdd, List.length_cons, List.length_nil]
          refine jq ?_
          refine jg ?_
          refine jn ?_
          refine jo ?_
          refine je ?_
          refine jq ?_
          refine WS.pblock rfl ?_
          refine jq ?_
          refine jg ?_
          iterate 2 refine jo ?_
          refine jB false ?_
          refine jo ?_
          refine je ?_
          refine WS.pcondF rfl rfl ?_
          refine jq ?_
          refine jg ?_
          refine jo ?_
          refine jc [0] C (by simp [jOb]) (by simp [jEb, jOb, jMb, mapL_cellsR, okL_cellsR]) ?_; rintro _ _ ⟨rfl, rfl⟩ -; simp only [jPg, jMb, ll, Nat.reduceAdd, Nat.reduceLT, Nat.zero_add, if_true, if_false, Nat.reduceSub, reduceIte, mapL_cellsR, Nat.lt_irrefl, Nat.not_lt_zero, Nat.zero_lt_succ, Nat.lt_add_one]
          refine jo ?_
          refine je ?_
          refine WS.pcondF rfl rfl ?_
          refine jq ?_
          refine jg ?_
          refine jo ?_
          refine WS.poV (tb := tb) rfl rfl rfl rfl (step_P (evP_sliceO (a := 64) rfl rfl rfl rfl rfl rfl (by first | exact .inl ⟨rfl, rfl⟩ | exact .inr ⟨_, _, rfl, rfl⟩ | exact .inr ⟨_, _, rfl, by first | assumption | omega⟩ | exact .inr ⟨_, _, rfl, (Int.toNat_of_nonneg (by omega)).symm⟩) (by first | exact .inl ⟨rfl, rfl⟩ | exact .inr ⟨_, _, rfl, rfl⟩ | exact .inr ⟨_, _, rfl, by first | assumption | omega⟩ | exact .inr ⟨_, _, rfl, (Int.toNat_of_nonneg (by omega)).symm⟩) (by omega) (by omega) (by omega))) (by simp only [Int.toNat_natCast, Int.toNat_one, Int.toNat_zero, Int.reduceToNat, Nat.zero_mul, Nat.one_mul, Nat.sub_zero, Nat.add_sub_cancel, nl, nz, Nat.reduceAdd, Nat.reduceMul, Int.reduceToNat]; exact rfl) ?_
          refine WS.po (tb := tb) rfl rfl rfl rfl (step_R rfl (evR_str rfl rfl rfl rfl rfl (cellsAt_part (o := 64) (m := 4) rfl (by omega)) (by first | exact rfl | (simp only [vcells, List.length_cons, List.length_nil, cellsI_len, cellsB_len, List.length_set, List.length_replicate, List.length_append, List.length_map, List.length_take, List.length_drop] <;> omega) | omega))) ?_
          refine WS.poB (tb := tb) false rfl rfl rfl rfl rfl (by assumption) ?_
          refine jo ?_
          refine je ?_
          refine WS.pcondF rfl rfl ?_
          refine jq ?_
          refine WS.pdrawX (tb := tb) (by kernel_rfl) rfl (by kernel_rfl) ?_; (try refine WZ.keep (l := 0) rfl ?_)
          refine WZ.p (tb := tb) rfl rfl rfl rfl rfl ?_
          refine WZ.pV (tb := tb) rfl rfl rfl rfl (evP_sliceO (a := 60) rfl rfl rfl rfl rfl rfl (by first | exact .inl ⟨rfl, rfl⟩ | exact .inr ⟨_, _, rfl, rfl⟩ | exact .inr ⟨_, _, rfl, by first | assumption | omega⟩ | exact .inr ⟨_, _, rfl, (Int.toNat_of_nonneg (by omega)).symm⟩) (by first | exact .inl ⟨rfl, rfl⟩ | exact .inr ⟨_, _, rfl, rfl⟩ | exact .inr ⟨_, _, rfl, by first | assumption | omega⟩ | exact .inr ⟨_, _, rfl, (Int.toNat_of_nonneg (by omega)).symm⟩) (by omega) (by omega) (by omega)) (by simp only [Int.toNat_natCast, Int.toNat_one, Int.toNat_zero, Int.reduceToNat, Nat.zero_mul, Nat.one_mul, Nat.sub_zero, Nat.add_sub_cancel, nl, nz, Nat.reduceAdd, Nat.reduceMul, Int.reduceToNat]; exact rfl) ?_
          refine WZ.callM (tb := tb) [0] G rfl rfl rfl rfl rfl rfl rfl rfl (by (try simp only [mapL, mapV, ll]) <;> exact rfl) (by simp [okL, okV]; fail_if_success exfalso) rfl (by simp [embP, okL, okV, mapL, mapV, mem_next, mem_get, mem_ro, mapL_cellsR, okL_cellsR]; fail_if_success exfalso) rfl rfl rfl (by repeat (first | exact trivial | refine ⟨rfl, ?_⟩)) ?_; simp only [jPg, jMb, ll, Nat.reduceAdd, Nat.reduceLT, Nat.zero_add, if_true, if_false, Nat.reduceSub, reduceIte, mapL_cellsR, Nat.lt_irrefl, Nat.not_lt_zero, Nat.zero_lt_succ, Nat.lt_add_one]
          refine WZ.p (tb := tb) rfl rfl rfl rfl rfl ?_
          refine WZ.pV (tb := tb) rfl rfl rfl rfl (evP_sliceO (b := 60) rfl rfl rfl rfl rfl rfl (by first | exact .inl ⟨rfl, rfl⟩ | exact .inr ⟨_, _, rfl, rfl⟩ | exact .inr ⟨_, _, rfl, by first | assumption | omega⟩ | exact .inr ⟨_, _, rfl, (Int.toNat_of_nonneg (by omega)).symm⟩) (by first | exact .inl ⟨rfl, rfl⟩ | exact .inr ⟨_, _, rfl, rfl⟩ | exact .inr ⟨_, _, rfl, by first | assumption | omega⟩ | exact .inr ⟨_, _, rfl, (Int.toNat_of_nonneg (by omega)).symm⟩) (by omega) (by omega) (by omega)) (by simp only [Int.toNat_natCast, Int.toNat_one, Int.toNat_zero, Int.reduceToNat, Nat.zero_mul, Nat.one_mul, Nat.sub_zero, Nat.add_sub_cancel, nl, nz, Nat.reduceAdd, Nat.reduceMul, Int.reduceToNat]; exact rfl) ?_
          refine WZ.callM (tb := tb) [0] SW rfl rfl rfl rfl rfl rfl rfl rfl (by (try simp only [mapL, mapV, ll]) <;> exact rfl) (by simp [okL, okV]; fail_if_success exfalso) rfl (by simp [embP, okL, okV, mapL, mapV, mem_next, mem_get, mem_ro, mapL_cellsR, okL_cellsR]; fail_if_success exfalso) rfl rfl rfl (by repeat (first | exact trivial | refine ⟨rfl, ?_⟩)) ?_; simp only [jPg, jMb, ll, Nat.reduceAdd, Nat.reduceLT, Nat.zero_add, if_true, if_false, Nat.reduceSub, reduceIte, mapL_cellsR, Nat.lt_irrefl, Nat.not_lt_zero, Nat.zero_lt_succ, Nat.lt_add_one]
          refine WZ.pNT (tb := tb) rfl rfl rfl rfl rfl (by omega) ?_
          refine WZ.p (tb := tb) rfl rfl rfl rfl rfl ?_
          refine WZ.fin rfl (by kernel_rfl) (by repeat (first | exact trivial | refine ⟨rfl, ?_⟩)) ?_
          refine WS.pcondT rfl rfl ?_
          refine jq ?_
          refine jg ?_
          refine WS.poA (tb := tb) rfl rfl rfl rfl rfl (by simp only [vcells, setL, ll, nl, nz, Nat.reduceAdd, Nat.reduceMul, Int.reduceToNat]; exact rfl) ?_
          refine WS.po0 (tb := tb) rfl rfl rfl rfl (step_H rfl rfl (evH_store rfl rfl rfl rfl rfl (Nat.zero_le _) rfl (by simp [vcells]) (Nat.le_of_ble_eq_true rfl))) ?_; rw [upd_mem _ rfl]; simp only [vcells, List.set_cons_zero, List.set_cons_succ, hz0]; (try simp only [setL, List.set_cons_zero, List.set_cons_succ])
          refine jo ?_
          refine je ?_
          refine WS.pret rfl ⟨.inr rfl, _, (resV2 (a := 2) (k := 3) (T := 30) (z := 39) rfl rfl rfl rfl rfl rfl), ?_⟩
          exact ⟨_, rfl, [0], [some ⟨cellsR (rwI .u8) I, 5, false⟩], .tup [.agg pgZ, .i .i64 10], ⟨rfl, rfl, (by simp [jVb, jOb, jMb, mapL_cellsR, okL_cellsR]), rfl⟩, rfl, ⟨okL_pgV _ _ _ _ _ _ _ _ _, trivial, trivial⟩, rfl, rfl⟩
      · have e : er = 9 := by rw [← he]; unfold dErr; rw [if_neg (by omega), if_neg hc, if_pos (by rw [hm]; exact h9)]
        subst e
        have h9' : ((I.drop 64).take 4 == [68, 79, 78, 69]) = false := by simpa using h9
        rw [h9'] at hsm
        refine FM.pbodyV (tb := tb) (fn := Try.f10) rfl rfl ?_
        simp only [argS, Nat.reduceAdd, List.length_cons, List.length_nil]
        refine jq ?_
        refine jg ?_
        refine jn ?_
        refine jo ?_
        refine je ?_
        refine jq ?_
        refine WS.pblock rfl ?_
        refine jq ?_
        refine jg ?_
        iterate 2 refine jo ?_
        refine jB false ?_
        refine jo ?_
        refine je ?_
        refine WS.pcondF rfl rfl ?_
        refine jq ?_
        refine jg ?_
        refine jo ?_
        refine jc [0] C (by simp [jOb]) (by simp [jEb, jOb, jMb, mapL_cellsR, okL_cellsR]) ?_; rintro _ _ ⟨rfl, rfl⟩ -; simp only [jPg, jMb, ll, Nat.reduceAdd, Nat.reduceLT, Nat.zero_add, if_true, if_false, Nat.reduceSub, reduceIte, mapL_cellsR, Nat.lt_irrefl, Nat.not_lt_zero, Nat.zero_lt_succ, Nat.lt_add_one]
        refine jo ?_
        refine je ?_
        refine WS.pcondF rfl rfl ?_
        refine jq ?_
        refine jg ?_
        refine jo ?_
        refine WS.poV (tb := tb) rfl rfl rfl rfl (step_P (evP_sliceO (a := 64) rfl rfl rfl rfl rfl rfl (by first | exact .inl ⟨rfl, rfl⟩ | exact .inr ⟨_, _, rfl, rfl⟩ | exact .inr ⟨_, _, rfl, by first | assumption | omega⟩ | exact .inr ⟨_, _, rfl, (Int.toNat_of_nonneg (by omega)).symm⟩) (by first | exact .inl ⟨rfl, rfl⟩ | exact .inr ⟨_, _, rfl, rfl⟩ | exact .inr ⟨_, _, rfl, by first | assumption | omega⟩ | exact .inr ⟨_, _, rfl, (Int.toNat_of_nonneg (by omega)).symm⟩) (by omega) (by omega) (by omega))) (by simp only [Int.toNat_natCast, Int.toNat_one, Int.toNat_zero, Int.reduceToNat, Nat.zero_mul, Nat.one_mul, Nat.sub_zero, Nat.add_sub_cancel, nl, nz, Nat.reduceAdd, Nat.reduceMul, Int.reduceToNat]; exact rfl) ?_
        refine WS.po (tb := tb) rfl rfl rfl rfl (step_R rfl (evR_str rfl rfl rfl rfl rfl (cellsAt_part (o := 64) (m := 4) rfl (by omega)) (by first | exact rfl | (simp only [vcells, List.length_cons, List.length_nil, cellsI_len, cellsB_len, List.length_set, List.length_replicate, List.length_append, List.length_map, List.length_take, List.length_drop] <;> omega) | omega))) ?_
        refine WS.poB (tb := tb) true rfl rfl rfl rfl rfl (by assumption) ?_
        refine jo ?_
        refine je ?_
        refine WS.pcondT rfl rfl ?_
        refine jq ?_
        refine jg ?_
        refine WS.poA (tb := tb) rfl rfl rfl rfl rfl (by simp only [vcells, setL, ll, nl, nz, Nat.reduceAdd, Nat.reduceMul, Int.reduceToNat]; exact rfl) ?_
        refine WS.po0 (tb := tb) rfl rfl rfl rfl (step_H rfl rfl (evH_store rfl rfl rfl rfl rfl (Nat.zero_le _) rfl (by simp [vcells]) (Nat.le_of_ble_eq_true rfl))) ?_; rw [upd_mem _ rfl]; simp only [vcells, List.set_cons_zero, List.set_cons_succ, hz0]; (try simp only [setL, List.set_cons_zero, List.set_cons_succ])
        refine jo ?_
        refine je ?_
        refine WS.pret rfl ⟨.inr rfl, _, (resV2 (a := 2) (k := 3) (T := 30) (z := 39) rfl rfl rfl rfl rfl rfl), ?_⟩
        exact ⟨_, rfl, [0], [some ⟨cellsR (rwI .u8) I, 5, false⟩], .tup [.agg pgZ, .i .i64 9], ⟨rfl, rfl, (by simp [jVb, jOb, jMb, mapL_cellsR, okL_cellsR]), rfl⟩, rfl, ⟨okL_pgV _ _ _ _ _ _ _ _ _, trivial, trivial⟩, rfl, rfl⟩
  · have e : er = 1 := by rw [← he]; unfold dErr; rw [if_pos (by omega)]
    subst e
    refine FM.pbodyV (tb := tb) (fn := Try.f10) rfl rfl ?_
    simp only [argS, Nat.reduceAdd, List.length_cons, List.length_nil]
    refine jq ?_
    refine jg ?_
    refine jn ?_
    refine jo ?_
    refine je ?_
    refine jq ?_
    refine WS.pblock rfl ?_
    refine jq ?_
    refine jg ?_
    iterate 2 refine jo ?_
    refine jNT ?_
    refine jo ?_
    refine je ?_
    refine WS.pcondT rfl rfl ?_
    refine jq ?_
    refine jg ?_
    refine WS.poA (tb := tb) rfl rfl rfl rfl rfl (by simp only [vcells, setL, ll, nl, nz, Nat.reduceAdd, Nat.reduceMul, Int.reduceToNat]; exact rfl) ?_
    refine WS.po0 (tb := tb) rfl rfl rfl rfl (step_H rfl rfl (evH_store rfl rfl rfl rfl rfl (Nat.zero_le _) rfl (by simp [vcells]) (Nat.le_of_ble_eq_true rfl))) ?_; rw [upd_mem _ rfl]; simp only [vcells, List.set_cons_zero, List.set_cons_succ, hz0]; (try simp only [setL, List.set_cons_zero, List.set_cons_succ])
    refine jo ?_
    refine je ?_
    refine WS.pret rfl ⟨.inr rfl, _, (resV2 (a := 2) (k := 3) (T := 30) (z := 39) rfl rfl rfl rfl rfl rfl), ?_⟩
    exact ⟨_, rfl, [0], [some ⟨cellsR (rwI .u8) I, 5, false⟩], .tup [.agg pgZ, .i .i64 1], ⟨rfl, rfl, (by simp [jVb, jOb, jMb, mapL_cellsR, okL_cellsR]), rfl⟩, rfl, ⟨okL_pgV _ _ _ _ _ _ _ _ _, trivial, trivial⟩, rfl, rfl⟩

end Go.Proofs.Ytnogdgdkeojlpaa.Am

