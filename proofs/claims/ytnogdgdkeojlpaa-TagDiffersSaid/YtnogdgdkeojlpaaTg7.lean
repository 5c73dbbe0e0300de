/- Functions of the pages, walked. Conditions: those of each theorem. -/
import Derived.Test.YtnogdgdkeojlpaaAm5
import Derived.Test.YtnogdgdkeojlpaaTg6
namespace Go.Proofs.Ytnogdgdkeojlpaa.Am
open Go.Proofs
set_option maxRecDepth 1000000
set_option maxHeartbeats 4000000
set_option linter.unusedSimpArgs false
set_option linter.unusedVariables false
def Z32 : List Int := List.replicate 32 0
theorem z32_eq : (V.i .u8 0 :: V.i .u8 0 :: V.i .u8 0 :: V.i .u8 0 :: V.i .u8 0 :: V.i .u8 0 :: V.i .u8 0 :: V.i .u8 0 :: V.i .u8 0 :: V.i .u8 0 :: V.i .u8 0 :: V.i .u8 0 :: V.i .u8 0 :: V.i .u8 0 :: V.i .u8 0 :: V.i .u8 0 :: V.i .u8 0 :: V.i .u8 0 :: V.i .u8 0 :: V.i .u8 0 :: V.i .u8 0 :: V.i .u8 0 :: V.i .u8 0 :: V.i .u8 0 :: V.i .u8 0 :: V.i .u8 0 :: V.i .u8 0 :: V.i .u8 0 :: V.i .u8 0 :: V.i .u8 0 :: V.i .u8 0 :: V.i .u8 0 :: [] : List V) = b32 Z32 := rfl
/-- A page's cells when its first numbers are read. -/
def DVs (k g0 g1 g2 g3 g4 g5 : Int) (Z : List Int) : Nat → List V
  | 0 => V.i .i64 k :: V.i .u32 0 :: V.i .u32 0 :: V.i .u32 0 :: V.i .u32 0 :: V.i .u32 0 :: V.i .u32 0 :: b32 Z
  | 1 => V.i .i64 k :: V.i .u32 g0 :: V.i .u32 0 :: V.i .u32 0 :: V.i .u32 0 :: V.i .u32 0 :: V.i .u32 0 :: b32 Z
  | 2 => V.i .i64 k :: V.i .u32 g0 :: V.i .u32 g1 :: V.i .u32 0 :: V.i .u32 0 :: V.i .u32 0 :: V.i .u32 0 :: b32 Z
  | 3 => V.i .i64 k :: V.i .u32 g0 :: V.i .u32 g1 :: V.i .u32 g2 :: V.i .u32 0 :: V.i .u32 0 :: V.i .u32 0 :: b32 Z
  | 4 => V.i .i64 k :: V.i .u32 g0 :: V.i .u32 g1 :: V.i .u32 g2 :: V.i .u32 g3 :: V.i .u32 0 :: V.i .u32 0 :: b32 Z
  | 5 => V.i .i64 k :: V.i .u32 g0 :: V.i .u32 g1 :: V.i .u32 g2 :: V.i .u32 g3 :: V.i .u32 g4 :: V.i .u32 0 :: b32 Z
  | _ => V.i .i64 k :: V.i .u32 g0 :: V.i .u32 g1 :: V.i .u32 g2 :: V.i .u32 g3 :: V.i .u32 g4 :: V.i .u32 g5 :: b32 Z
theorem z39_k (k : Int) : setL (V.i .i64 0 :: V.i .u32 0 :: V.i .u32 0 :: V.i .u32 0 :: V.i .u32 0 :: V.i .u32 0 :: V.i .u32 0 :: V.i .u8 0 :: V.i .u8 0 :: V.i .u8 0 :: V.i .u8 0 :: V.i .u8 0 :: V.i .u8 0 :: V.i .u8 0 :: V.i .u8 0 :: V.i .u8 0 :: V.i .u8 0 :: V.i .u8 0 :: V.i .u8 0 :: V.i .u8 0 :: V.i .u8 0 :: V.i .u8 0 :: V.i .u8 0 :: V.i .u8 0 :: V.i .u8 0 :: V.i .u8 0 :: V.i .u8 0 :: V.i .u8 0 :: V.i .u8 0 :: V.i .u8 0 :: V.i .u8 0 :: V.i .u8 0 :: V.i .u8 0 :: V.i .u8 0 :: V.i .u8 0 :: V.i .u8 0 :: V.i .u8 0 :: V.i .u8 0 :: V.i .u8 0 :: []) 0 (V.i .i64 k :: V.i .u32 0 :: V.i .u32 0 :: V.i .u32 0 :: V.i .u32 0 :: V.i .u32 0 :: V.i .u32 0 :: V.i .u8 0 :: V.i .u8 0 :: V.i .u8 0 :: V.i .u8 0 :: V.i .u8 0 :: V.i .u8 0 :: V.i .u8 0 :: V.i .u8 0 :: V.i .u8 0 :: V.i .u8 0 :: V.i .u8 0 :: V.i .u8 0 :: V.i .u8 0 :: V.i .u8 0 :: V.i .u8 0 :: V.i .u8 0 :: V.i .u8 0 :: V.i .u8 0 :: V.i .u8 0 :: V.i .u8 0 :: V.i .u8 0 :: V.i .u8 0 :: V.i .u8 0 :: V.i .u8 0 :: V.i .u8 0 :: V.i .u8 0 :: V.i .u8 0 :: V.i .u8 0 :: V.i .u8 0 :: V.i .u8 0 :: V.i .u8 0 :: V.i .u8 0 :: []) = (V.i .i64 k :: V.i .u32 0 :: V.i .u32 0 :: V.i .u32 0 :: V.i .u32 0 :: V.i .u32 0 :: V.i .u32 0 :: V.i .u8 0 :: V.i .u8 0 :: V.i .u8 0 :: V.i .u8 0 :: V.i .u8 0 :: V.i .u8 0 :: V.i .u8 0 :: V.i .u8 0 :: V.i .u8 0 :: V.i .u8 0 :: V.i .u8 0 :: V.i .u8 0 :: V.i .u8 0 :: V.i .u8 0 :: V.i .u8 0 :: V.i .u8 0 :: V.i .u8 0 :: V.i .u8 0 :: V.i .u8 0 :: V.i .u8 0 :: V.i .u8 0 :: V.i .u8 0 :: V.i .u8 0 :: V.i .u8 0 :: V.i .u8 0 :: V.i .u8 0 :: V.i .u8 0 :: V.i .u8 0 :: V.i .u8 0 :: V.i .u8 0 :: V.i .u8 0 :: V.i .u8 0 :: []) := setL_whole (by simp only [List.length_cons, b32_len, List.length_nil])
theorem pg_pay (k g0 g1 g2 g3 g4 g5 : Int) {Q : List Int} (hQl : Q.length = 32) : setL (V.i .i64 k :: V.i .u32 g0 :: V.i .u32 g1 :: V.i .u32 g2 :: V.i .u32 g3 :: V.i .u32 g4 :: V.i .u32 g5 :: b32 Z32) 7 (cellsR (rwI .u8) Q) = (V.i .i64 k :: V.i .u32 g0 :: V.i .u32 g1 :: V.i .u32 g2 :: V.i .u32 g3 :: V.i .u32 g4 :: V.i .u32 g5 :: b32 Q) := by
  have h := setL_tail (pre := [V.i .i64 k, .i .u32 g0, .i .u32 g1, .i .u32 g2, .i .u32 g3, .i .u32 g4, .i .u32 g5]) (xs := b32 Z32) (ys := b32 Q) (by rw [b32_len, b32_len])
  simp only [List.cons_append, List.nil_append, List.length_cons, List.length_nil, Nat.zero_add, Nat.reduceAdd] at h
  rw [cells_b32 hQl]; exact h
theorem pg_res (k g0 g1 g2 g3 g4 g5 : Int) (Q : List Int) : setL (V.i .i64 0 :: V.i .u32 0 :: V.i .u32 0 :: V.i .u32 0 :: V.i .u32 0 :: V.i .u32 0 :: V.i .u32 0 :: V.i .u8 0 :: V.i .u8 0 :: V.i .u8 0 :: V.i .u8 0 :: V.i .u8 0 :: V.i .u8 0 :: V.i .u8 0 :: V.i .u8 0 :: V.i .u8 0 :: V.i .u8 0 :: V.i .u8 0 :: V.i .u8 0 :: V.i .u8 0 :: V.i .u8 0 :: V.i .u8 0 :: V.i .u8 0 :: V.i .u8 0 :: V.i .u8 0 :: V.i .u8 0 :: V.i .u8 0 :: V.i .u8 0 :: V.i .u8 0 :: V.i .u8 0 :: V.i .u8 0 :: V.i .u8 0 :: V.i .u8 0 :: V.i .u8 0 :: V.i .u8 0 :: V.i .u8 0 :: V.i .u8 0 :: V.i .u8 0 :: V.i .u8 0 :: []) 0 (V.i .i64 k :: V.i .u32 g0 :: V.i .u32 g1 :: V.i .u32 g2 :: V.i .u32 g3 :: V.i .u32 g4 :: V.i .u32 g5 :: b32 Q) = (V.i .i64 k :: V.i .u32 g0 :: V.i .u32 g1 :: V.i .u32 g2 :: V.i .u32 g3 :: V.i .u32 g4 :: V.i .u32 g5 :: b32 Q) := setL_whole (by simp only [List.length_cons, b32_len, List.length_nil])
set_option maxHeartbeats 16000000 in
theorem dec_ok_f (I : List Int) (n c : Nat) (hb : Byt I) (hcap : n ≤ c) (hn : n ≤ I.length) (hl : I.length ≤ 9223372036854775807) (he : dErr (I.take n) = 0) :
    FM Try.prog 10 [.sl (some (0,0)) n c false] [some ⟨cellsR (rwI .u8) I, 5, false⟩] (fun v M' => v = .tup [.agg (pgO (I.take n)), .i .i64 0] ∧ M' = [some ⟨cellsR (rwI .u8) I, 5, false⟩]) := by
  have hO : pgO (I.take n) = pgJ (I.take n) := by unfold pgO; rw [if_pos he]
  rw [hO]
  have hJ : (I.take n).length = n := by rw [List.length_take]; omega
  have hn68 : n = 68 := by
    refine Classical.byContradiction fun h => ?_
    unfold dErr at he; rw [if_pos (by omega)] at he; omega
  subst hn68
  have hc : ¬ cleanB (I.take 68) = true := fun h => by
    unfold dErr at he; rw [if_neg (by omega), if_pos h] at he; omega
  have hm : (I.take 68).drop 64 = (I.drop 64).take 4 := by rw [List.drop_take]
  have h9 : (I.drop 64).take 4 = [68, 79, 78, 69] := Classical.byContradiction fun h => by
    unfold dErr at he; rw [if_neg (by omega), if_neg hc, if_pos (by rw [hm]; exact h)] at he; omega
  have e60 : ge4 (I.take 68) 60 = ge4 I 60 := ge4_take (by omega)
  have s60 : (I.take 68).take 60 = I.take 60 := by rw [List.take_take]; rfl
  have h10 : ge4 I 60 = crcM 0 (I.take 60) := Classical.byContradiction fun h => by
    unfold dErr at he; rw [if_neg (by omega), if_neg hc, if_neg (by rw [hm]; exact fun z => z h9), if_pos (by rw [e60, s60]; exact h)] at he; omega
  have hH : okH (I.take 68) := Classical.byContradiction fun h => by
    unfold dErr at he; rw [if_neg (by omega), if_neg hc, if_neg (by rw [hm]; exact fun z => z h9), if_neg (by rw [e60, s60]; exact fun z => z h10), if_pos h] at he; omega
  have C := clean_walk I 68 c false hb hn hl
  have hc' : cleanB (I.take 68) = false := by simpa using hc
  rw [hc'] at C
  have hbm : Byt ((I.drop 64).take 4) := fun x hx => hb x (List.mem_of_mem_drop (List.mem_of_mem_take hx))
  have hsm := mark_str _ hbm
  have G := get_walk I 60 8 (c - 60) false hb (by omega) (by omega) hl
  have SW := sum_walk I 60 c false hb (by omega) hl
  have h9' : ((I.drop 64).take 4 == [68, 79, 78, 69]) = true := by simpa using h9
  rw [h9'] at hsm
  unfold okH at hH
  unfold pgJ
  rw [take_at (by omega), take_at (by omega), take_at (by omega), take_at (by omega)] at hH
  rw [take_at (by omega), ge4_take (by omega), ge4_take (by omega), ge4_take (by omega), ge4_take (by omega), ge4_take (by omega), ge4_take (by omega)]
  have hQ : ((I.take 68).drop 28).take 32 = (I.drop 28).take 32 := by rw [List.drop_take, List.take_take]; rfl
  rw [hQ]
  have hQl : ((I.drop 28).take 32).length = 32 := by rw [List.length_take, List.length_drop]; omega
  have hcp : ∀ h : LH, h.get 0 = some ⟨cellsR (rwI .u8) I, 5, false⟩ → cellsAt h 0 28 32 = some (cellsR (rwI .u8) ((I.drop 28).take 32)) := fun h hh => cellsAt_part hh (by omega)
  generalize (I.drop 28).take 32 = Q at *
  have hx0 := get_at (I := I) (i := 0) (by omega)
  have hx1 := get_at (I := I) (i := 1) (by omega)
  have hx2 := get_at (I := I) (i := 2) (by omega)
  have hx3 := get_at (I := I) (i := 3) (by omega)
  have hb0 := hb _ (List.mem_of_getElem? hx0)
  have GG := fun o m (hm : 4 ≤ m) (ho : o + 4 ≤ 68) => get_walk I o m (c - o) false hb hm (by omega) hl
  have G0 := GG 4 64 (by omega) (by omega)
  have G1 := GG 8 60 (by omega) (by omega)
  have G2 := GG 12 56 (by omega) (by omega)
  have G3 := GG 16 52 (by omega) (by omega)
  have G4 := GG 20 48 (by omega) (by omega)
  have G5 := GG 24 44 (by omega) (by omega)
  clear GG
  obtain ⟨hk, h1, h2, h3⟩ := hH
  generalize ge4 I 4 = g0 at *
  generalize ge4 I 8 = g1 at *
  generalize ge4 I 12 = g2 at *
  generalize ge4 I 16 = g3 at *
  generalize ge4 I 20 = g4 at *
  generalize ge4 I 24 = g5 at *
  generalize I.getD 0 0 = k at *
  generalize I.getD 1 0 = b1 at *
  generalize I.getD 2 0 = b2 at *
  generalize I.getD 3 0 = b3 at *
  generalize ge4 I 60 = g at *
  generalize crcM 0 (I.take 60) = s at *
  have K := kind_yes k hk
  clear he hO hJ hc hm h9 s60 hQ hc' hb
  refine FM.pbodyV (tb := tb) (fn := Try.f10) rfl rfl ?_
  simp only [argS, Nat.reduceAdd, List.length_cons, List.length_nil]
  refine jq ?_
  refine jg ?_
  refine jn ?_
  refine jo ?_
  refine je ?_
  refine jq ?_
  refine WS.pblock rfl ?_
  refine jq ?_
  refine jg ?_
  iterate 2 refine jo ?_
  refine jB false ?_
  refine jo ?_
  refine je ?_
  refine WS.pcondF rfl rfl ?_
  refine jq ?_
  refine jg ?_
  refine jo ?_
  refine jc [0] C (by simp [jOb]) (by simp [jEb, jOb, jMb, mapL_cellsR, okL_cellsR]) ?_; rintro _ _ ⟨rfl, rfl⟩ -; simp only [jPg, jMb, ll, Nat.reduceAdd, Nat.reduceLT, Nat.zero_add, if_true, if_false, Nat.reduceSub, reduceIte, mapL_cellsR, Nat.lt_irrefl, Nat.not_lt_zero, Nat.zero_lt_succ, Nat.lt_add_one]
  refine jo ?_
  refine je ?_
  refine WS.pcondF rfl rfl ?_
  refine jq ?_
  refine jg ?_
  refine jo ?_
  refine WS.poV (tb := tb) rfl rfl rfl rfl (step_P (evP_sliceC (a := 64) rfl rfl rfl rfl rfl rfl (by first | exact .inl ⟨rfl, rfl⟩ | exact .inr ⟨_, _, rfl, rfl⟩ | exact .inr ⟨_, _, rfl, by first | assumption | omega⟩ | exact .inr ⟨_, _, rfl, (Int.toNat_of_nonneg (by omega)).symm⟩) (by first | exact .inl ⟨rfl, rfl⟩ | exact .inr ⟨_, _, rfl, rfl⟩ | exact .inr ⟨_, _, rfl, by first | assumption | omega⟩ | exact .inr ⟨_, _, rfl, (Int.toNat_of_nonneg (by omega)).symm⟩) (by omega) (by omega) (by omega))) (by simp only [Int.toNat_natCast, Int.toNat_one, Int.toNat_zero, Int.reduceToNat, Nat.zero_mul, Nat.one_mul, Nat.sub_zero, Nat.add_sub_cancel, nl, nz, Nat.reduceAdd, Nat.reduceMul, Int.reduceToNat]; exact rfl) ?_
  refine WS.po (tb := tb) rfl rfl rfl rfl (step_R rfl (evR_str rfl rfl rfl rfl rfl (cellsAt_part (o := 64) (m := 4) rfl (by omega)) (by first | exact rfl | (simp only [vcells, List.length_cons, List.length_nil, cellsI_len, cellsB_len, List.length_set, List.length_replicate, List.length_append, List.length_map, List.length_take, List.length_drop] <;> omega) | omega))) ?_
  refine WS.poB (tb := tb) false rfl rfl rfl rfl rfl (by assumption) ?_
  refine jo ?_
  refine je ?_
  refine WS.pcondF rfl rfl ?_
  refine jq ?_
  refine WS.pdrawX (tb := tb) (by kernel_rfl) rfl (by kernel_rfl) ?_; (try refine WZ.keep (l := 0) rfl ?_)
  refine WZ.p (tb := tb) rfl rfl rfl rfl rfl ?_
  refine WZ.pV (tb := tb) rfl rfl rfl rfl (evP_sliceC (a := 60) rfl rfl rfl rfl rfl rfl (by first | exact .inl ⟨rfl, rfl⟩ | exact .inr ⟨_, _, rfl, rfl⟩ | exact .inr ⟨_, _, rfl, by first | assumption | omega⟩ | exact .inr ⟨_, _, rfl, (Int.toNat_of_nonneg (by omega)).symm⟩) (by first | exact .inl ⟨rfl, rfl⟩ | exact .inr ⟨_, _, rfl, rfl⟩ | exact .inr ⟨_, _, rfl, by first | assumption | omega⟩ | exact .inr ⟨_, _, rfl, (Int.toNat_of_nonneg (by omega)).symm⟩) (by omega) (by omega) (by omega)) (by simp only [Int.toNat_natCast, Int.toNat_one, Int.toNat_zero, Int.reduceToNat, Nat.zero_mul, Nat.one_mul, Nat.sub_zero, Nat.add_sub_cancel, nl, nz, Nat.reduceAdd, Nat.reduceMul, Int.reduceToNat]; exact rfl) ?_
  refine WZ.callM (tb := tb) [0] G rfl rfl rfl rfl rfl rfl rfl rfl (by (try simp only [mapL, mapV, ll]) <;> exact rfl) (by simp [okL, okV]; fail_if_success exfalso) rfl (by simp [embP, okL, okV, mapL, mapV, mem_next, mem_get, mem_ro, mapL_cellsR, okL_cellsR]; fail_if_success exfalso) rfl rfl rfl (by repeat (first | exact trivial | refine ⟨rfl, ?_⟩)) ?_; simp only [jPg, jMb, ll, Nat.reduceAdd, Nat.reduceLT, Nat.zero_add, if_true, if_false, Nat.reduceSub, reduceIte, mapL_cellsR, Nat.lt_irrefl, Nat.not_lt_zero, Nat.zero_lt_succ, Nat.lt_add_one]
  refine WZ.p (tb := tb) rfl rfl rfl rfl rfl ?_
  refine WZ.pV (tb := tb) rfl rfl rfl rfl (evP_sliceC (b := 60) rfl rfl rfl rfl rfl rfl (by first | exact .inl ⟨rfl, rfl⟩ | exact .inr ⟨_, _, rfl, rfl⟩ | exact .inr ⟨_, _, rfl, by first | assumption | omega⟩ | exact .inr ⟨_, _, rfl, (Int.toNat_of_nonneg (by omega)).symm⟩) (by first | exact .inl ⟨rfl, rfl⟩ | exact .inr ⟨_, _, rfl, rfl⟩ | exact .inr ⟨_, _, rfl, by first | assumption | omega⟩ | exact .inr ⟨_, _, rfl, (Int.toNat_of_nonneg (by omega)).symm⟩) (by omega) (by omega) (by omega)) (by simp only [Int.toNat_natCast, Int.toNat_one, Int.toNat_zero, Int.reduceToNat, Nat.zero_mul, Nat.one_mul, Nat.sub_zero, Nat.add_sub_cancel, nl, nz, Nat.reduceAdd, Nat.reduceMul, Int.reduceToNat]; exact rfl) ?_
  refine WZ.callM (tb := tb) [0] SW rfl rfl rfl rfl rfl rfl rfl rfl (by (try simp only [mapL, mapV, ll]) <;> exact rfl) (by simp [okL, okV]; fail_if_success exfalso) rfl (by simp [embP, okL, okV, mapL, mapV, mem_next, mem_get, mem_ro, mapL_cellsR, okL_cellsR]; fail_if_success exfalso) rfl rfl rfl (by repeat (first | exact trivial | refine ⟨rfl, ?_⟩)) ?_; simp only [jPg, jMb, ll, Nat.reduceAdd, Nat.reduceLT, Nat.zero_add, if_true, if_false, Nat.reduceSub, reduceIte, mapL_cellsR, Nat.lt_irrefl, Nat.not_lt_zero, Nat.zero_lt_succ, Nat.lt_add_one]
  refine WZ.pNF (tb := tb) rfl rfl rfl rfl rfl (by omega) ?_
  refine WZ.p (tb := tb) rfl rfl rfl rfl rfl ?_
  refine WZ.fin rfl (by kernel_rfl) (by repeat (first | exact trivial | refine ⟨rfl, ?_⟩)) ?_
  refine WS.pcondF rfl rfl ?_
  refine jq ?_
  refine jg ?_
  refine jo ?_
  refine WS.poP (tb := tb) rfl rfl rfl rfl (step_P (evP_index rfl rfl rfl rfl rfl rfl (by simp only [vcells, List.length_cons, List.length_nil, cellsI_len, cellsB_len, List.length_set, List.length_replicate, List.length_append, List.length_map, List.length_take, List.length_drop]; omega))) (by simp only [Nat.zero_add, Nat.add_zero, Nat.reduceAdd, Nat.reduceMul, Nat.add_assoc, Nat.mul_one]; exact rfl) ?_
  refine WS.po (tb := tb) rfl rfl rfl rfl (step_R rfl (evR_load rfl rfl rfl rfl (cellsR_get0 hx0 rfl))) ?_
  refine jW ?_
  refine jc [] K (by simp [jOb]) (by simp [jEb, jOb, jMb, mapL_cellsR, okL_cellsR]) ?_; rintro _ _ ⟨rfl, rfl⟩ -; simp only [jPg, jMb, ll, Nat.reduceAdd, Nat.reduceLT, Nat.zero_add, if_true, if_false, Nat.reduceSub, reduceIte, mapL_cellsR, Nat.lt_irrefl, Nat.not_lt_zero, Nat.zero_lt_succ, Nat.lt_add_one]
  refine jB false ?_
  iterate 2 refine jo ?_
  refine WS.poP (tb := tb) rfl rfl rfl rfl (step_P (evP_index rfl rfl rfl rfl rfl rfl (by simp only [vcells, List.length_cons, List.length_nil, cellsI_len, cellsB_len, List.length_set, List.length_replicate, List.length_append, List.length_map, List.length_take, List.length_drop]; omega))) (by simp only [Nat.zero_add, Nat.add_zero, Nat.reduceAdd, Nat.reduceMul, Nat.add_assoc, Nat.mul_one]; exact rfl) ?_
  refine WS.po (tb := tb) rfl rfl rfl rfl (step_R rfl (evR_load rfl rfl rfl rfl (cellsR_get0 hx1 rfl))) ?_
  refine jNF ?_
  iterate 3 refine jo ?_
  refine WS.poP (tb := tb) rfl rfl rfl rfl (step_P (evP_index rfl rfl rfl rfl rfl rfl (by simp only [vcells, List.length_cons, List.length_nil, cellsI_len, cellsB_len, List.length_set, List.length_replicate, List.length_append, List.length_map, List.length_take, List.length_drop]; omega))) (by simp only [Nat.zero_add, Nat.add_zero, Nat.reduceAdd, Nat.reduceMul, Nat.add_assoc, Nat.mul_one]; exact rfl) ?_
  refine WS.po (tb := tb) rfl rfl rfl rfl (step_R rfl (evR_load rfl rfl rfl rfl (cellsR_get0 hx2 rfl))) ?_
  refine jNF ?_
  iterate 3 refine jo ?_
  refine WS.poP (tb := tb) rfl rfl rfl rfl (step_P (evP_index rfl rfl rfl rfl rfl rfl (by simp only [vcells, List.length_cons, List.length_nil, cellsI_len, cellsB_len, List.length_set, List.length_replicate, List.length_append, List.length_map, List.length_take, List.length_drop]; omega))) (by simp only [Nat.zero_add, Nat.add_zero, Nat.reduceAdd, Nat.reduceMul, Nat.add_assoc, Nat.mul_one]; exact rfl) ?_
  refine WS.po (tb := tb) rfl rfl rfl rfl (step_R rfl (evR_load rfl rfl rfl rfl (cellsR_get0 hx3 rfl))) ?_
  refine jNF ?_
  iterate 2 refine jo ?_
  refine je ?_
  refine WS.pcondF rfl rfl ?_
  refine WS.pskip rfl ?_
  refine jq ?_
  refine jg ?_
  refine jo ?_
  refine WS.poP (tb := tb) rfl rfl rfl rfl (step_P (evP_index rfl rfl rfl rfl rfl rfl (by simp only [vcells, List.length_cons, List.length_nil, cellsI_len, cellsB_len, List.length_set, List.length_replicate, List.length_append, List.length_map, List.length_take, List.length_drop]; omega))) (by simp only [Nat.zero_add, Nat.add_zero, Nat.reduceAdd, Nat.reduceMul, Nat.add_assoc, Nat.mul_one]; exact rfl) ?_
  refine WS.po (tb := tb) rfl rfl rfl rfl (step_R rfl (evR_load rfl rfl rfl rfl (cellsR_get0 hx0 rfl))) ?_
  refine jW ?_
  refine WS.poA (tb := tb) rfl rfl rfl rfl rfl (by simp only [vcells, setL, ll, nl, nz, Nat.reduceAdd, Nat.reduceMul, Int.reduceToNat]; exact rfl) ?_
  refine jn ?_
  refine WS.po0 (tb := tb) rfl rfl rfl rfl (step_H rfl rfl (evH_store rfl rfl rfl rfl rfl (Nat.zero_le _) rfl (by simp [vcells]) (Nat.le_of_ble_eq_true rfl))) ?_; rw [upd_mem _ rfl]; simp only [vcells, List.set_cons_zero, List.set_cons_succ, (z39_k k)]; (try simp only [setL, List.set_cons_zero, List.set_cons_succ])
  refine je ?_
  iterate 2 refine jq ?_
  refine jg ?_
  iterate 6 refine jP ?_
  refine WS.poA (tb := tb) rfl rfl rfl rfl rfl (by simp only [vcells, setL, ll, nl, nz, Nat.reduceAdd, Nat.reduceMul, Int.reduceToNat]; exact rfl) ?_
  refine jo ?_
  refine je ?_
  refine WS.pblock rfl ?_
  refine WS.ploopI (σ := Nat) (τ := Unit) (fun i => [(0, .sl (some (0,0)) 68 c false), (2, .p (some (1,0))), (4, .p (some (2,0))), (68, V.agg [V.p (some (2,1)), V.p (some (2,2)), V.p (some (2,3)), V.p (some (2,4)), V.p (some (2,5)), V.p (some (2,6))]), (69, .i .i64 i)]) (fun i => [some ⟨cellsR (rwI .u8) I, 5, false⟩, some ⟨(V.i .i64 0 :: V.i .u32 0 :: V.i .u32 0 :: V.i .u32 0 :: V.i .u32 0 :: V.i .u32 0 :: V.i .u32 0 :: V.i .u8 0 :: V.i .u8 0 :: V.i .u8 0 :: V.i .u8 0 :: V.i .u8 0 :: V.i .u8 0 :: V.i .u8 0 :: V.i .u8 0 :: V.i .u8 0 :: V.i .u8 0 :: V.i .u8 0 :: V.i .u8 0 :: V.i .u8 0 :: V.i .u8 0 :: V.i .u8 0 :: V.i .u8 0 :: V.i .u8 0 :: V.i .u8 0 :: V.i .u8 0 :: V.i .u8 0 :: V.i .u8 0 :: V.i .u8 0 :: V.i .u8 0 :: V.i .u8 0 :: V.i .u8 0 :: V.i .u8 0 :: V.i .u8 0 :: V.i .u8 0 :: V.i .u8 0 :: V.i .u8 0 :: V.i .u8 0 :: V.i .u8 0 :: []), 30, true⟩, some ⟨DVs k g0 g1 g2 g3 g4 g5 Z32 i, 30, true⟩]) (fun i => i ≤ 6) (fun i => 6 - i) (fun _ => [(0, .sl (some (0,0)) 68 c false), (2, .p (some (1,0))), (4, .p (some (2,0)))]) (fun _ => [some ⟨cellsR (rwI .u8) I, 5, false⟩, some ⟨(V.i .i64 0 :: V.i .u32 0 :: V.i .u32 0 :: V.i .u32 0 :: V.i .u32 0 :: V.i .u32 0 :: V.i .u32 0 :: V.i .u8 0 :: V.i .u8 0 :: V.i .u8 0 :: V.i .u8 0 :: V.i .u8 0 :: V.i .u8 0 :: V.i .u8 0 :: V.i .u8 0 :: V.i .u8 0 :: V.i .u8 0 :: V.i .u8 0 :: V.i .u8 0 :: V.i .u8 0 :: V.i .u8 0 :: V.i .u8 0 :: V.i .u8 0 :: V.i .u8 0 :: V.i .u8 0 :: V.i .u8 0 :: V.i .u8 0 :: V.i .u8 0 :: V.i .u8 0 :: V.i .u8 0 :: V.i .u8 0 :: V.i .u8 0 :: V.i .u8 0 :: V.i .u8 0 :: V.i .u8 0 :: V.i .u8 0 :: V.i .u8 0 :: V.i .u8 0 :: V.i .u8 0 :: []), 30, true⟩, some ⟨DVs k g0 g1 g2 g3 g4 g5 Z32 6, 30, true⟩]) (fun _ => True) 1 [0,1,2] 0 rfl (Nat.zero_le _) (jSb (by simp [jVb, jOb, jMb, mapL_cellsR, okL_cellsR, DVs, okL_b32, mapL_b32, z32_eq]) (by simp only [jSl, jOb, jMb, Nat.reduceAdd, Nat.reduceLT, DVs, okL_b32, mapL_b32, z32_eq] <;> exact jClo)) rfl ?_ ?_
  · intro i hi
    by_cases h : i < 6
    · obtain rfl | rfl | rfl | rfl | rfl | rfl : i = 0 ∨ i = 1 ∨ i = 2 ∨ i = 3 ∨ i = 4 ∨ i = 5 := by omega
      · simp only [DVs]
        refine jq ?_
        refine jg ?_
        refine jB true ?_
        refine je ?_
        refine jq ?_
        refine WS.pcondT rfl rfl ?_
        refine WS.pskip rfl ?_
        refine jq ?_
        refine WS.pblock rfl ?_
        refine jq ?_
        refine jg ?_
        iterate 4 refine jo ?_
        refine je ?_
        refine jg ?_
        iterate 3 refine jo ?_
        iterate 2 refine jW ?_
        refine WS.poV (tb := tb) rfl rfl rfl rfl (step_P (evP_sliceC (a := 4) rfl rfl rfl rfl rfl rfl (by first | exact .inl ⟨rfl, rfl⟩ | exact .inr ⟨_, _, rfl, rfl⟩ | exact .inr ⟨_, _, rfl, by first | assumption | omega⟩ | exact .inr ⟨_, _, rfl, (Int.toNat_of_nonneg (by omega)).symm⟩) (by first | exact .inl ⟨rfl, rfl⟩ | exact .inr ⟨_, _, rfl, rfl⟩ | exact .inr ⟨_, _, rfl, by first | assumption | omega⟩ | exact .inr ⟨_, _, rfl, (Int.toNat_of_nonneg (by omega)).symm⟩) (by omega) (by omega) (by omega))) (by simp only [Int.toNat_natCast, Int.toNat_one, Int.toNat_zero, Int.reduceToNat, Nat.zero_mul, Nat.one_mul, Nat.sub_zero, Nat.add_sub_cancel, nl, nz, Nat.reduceAdd, Nat.reduceMul, Int.reduceToNat]; exact rfl) ?_
        refine jc [0] G0 (by simp [jOb, okL_b32, mapL_b32]) (by simp [jEb, jOb, jMb, mapL_cellsR, okL_cellsR, okL_b32, mapL_b32]) ?_; rintro _ _ ⟨rfl, rfl⟩ -; simp only [jPg, jMb, ll, Nat.reduceAdd, Nat.reduceLT, Nat.zero_add, if_true, if_false, Nat.reduceSub, reduceIte, mapL_cellsR, Nat.lt_irrefl, Nat.not_lt_zero, Nat.zero_lt_succ, Nat.lt_add_one, okL_b32, mapL_b32]
        refine jo ?_
        refine js ?_
        refine je ?_
        refine jg ?_
        refine jW ?_
        refine jo ?_
        refine je ?_
        refine WS.nil ?_
        exact ⟨1, by omega, by omega, (jSn [0,1,2] (by simp [jVb, jOb, jMb, mapL_cellsR, okL_cellsR, DVs, okL_b32, mapL_b32]) (by simp only [jSl, jOb, jMb, Nat.reduceAdd, Nat.reduceLT, DVs, okL_b32, mapL_b32] <;> exact jClo))⟩
      · simp only [DVs]
        refine jq ?_
        refine jg ?_
        refine jB true ?_
        refine je ?_
        refine jq ?_
        refine WS.pcondT rfl rfl ?_
        refine WS.pskip rfl ?_
        refine jq ?_
        refine WS.pblock rfl ?_
        refine jq ?_
        refine jg ?_
        iterate 4 refine jo ?_
        refine je ?_
        refine jg ?_
        iterate 3 refine jo ?_
        iterate 2 refine jW ?_
        refine WS.poV (tb := tb) rfl rfl rfl rfl (step_P (evP_sliceC (a := 8) rfl rfl rfl rfl rfl rfl (by first | exact .inl ⟨rfl, rfl⟩ | exact .inr ⟨_, _, rfl, rfl⟩ | exact .inr ⟨_, _, rfl, by first | assumption | omega⟩ | exact .inr ⟨_, _, rfl, (Int.toNat_of_nonneg (by omega)).symm⟩) (by first | exact .inl ⟨rfl, rfl⟩ | exact .inr ⟨_, _, rfl, rfl⟩ | exact .inr ⟨_, _, rfl, by first | assumption | omega⟩ | exact .inr ⟨_, _, rfl, (Int.toNat_of_nonneg (by omega)).symm⟩) (by omega) (by omega) (by omega))) (by simp only [Int.toNat_natCast, Int.toNat_one, Int.toNat_zero, Int.reduceToNat, Nat.zero_mul, Nat.one_mul, Nat.sub_zero, Nat.add_sub_cancel, nl, nz, Nat.reduceAdd, Nat.reduceMul, Int.reduceToNat]; exact rfl) ?_
        refine jc [0] G1 (by simp [jOb, okL_b32, mapL_b32]) (by simp [jEb, jOb, jMb, mapL_cellsR, okL_cellsR, okL_b32, mapL_b32]) ?_; rintro _ _ ⟨rfl, rfl⟩ -; simp only [jPg, jMb, ll, Nat.reduceAdd, Nat.reduceLT, Nat.zero_add, if_true, if_false, Nat.reduceSub, reduceIte, mapL_cellsR, Nat.lt_irrefl, Nat.not_lt_zero, Nat.zero_lt_succ, Nat.lt_add_one, okL_b32, mapL_b32]
        refine jo ?_
        refine js ?_
        refine je ?_
        refine jg ?_
        refine jW ?_
        refine jo ?_
        refine je ?_
        refine WS.nil ?_
        exact ⟨2, by omega, by omega, (jSn [0,1,2] (by simp [jVb, jOb, jMb, mapL_cellsR, okL_cellsR, DVs, okL_b32, mapL_b32]) (by simp only [jSl, jOb, jMb, Nat.reduceAdd, Nat.reduceLT, DVs, okL_b32, mapL_b32] <;> exact jClo))⟩
      · simp only [DVs]
        refine jq ?_
        refine jg ?_
        refine jB true ?_
        refine je ?_
        refine jq ?_
        refine WS.pcondT rfl rfl ?_
        refine WS.pskip rfl ?_
        refine jq ?_
        refine WS.pblock rfl ?_
        refine jq ?_
        refine jg ?_
        iterate 4 refine jo ?_
        refine je ?_
        refine jg ?_
        iterate 3 refine jo ?_
        iterate 2 refine jW ?_
        refine WS.poV (tb := tb) rfl rfl rfl rfl (step_P (evP_sliceC (a := 12) rfl rfl rfl rfl rfl rfl (by first | exact .inl ⟨rfl, rfl⟩ | exact .inr ⟨_, _, rfl, rfl⟩ | exact .inr ⟨_, _, rfl, by first | assumption | omega⟩ | exact .inr ⟨_, _, rfl, (Int.toNat_of_nonneg (by omega)).symm⟩) (by first | exact .inl ⟨rfl, rfl⟩ | exact .inr ⟨_, _, rfl, rfl⟩ | exact .inr ⟨_, _, rfl, by first | assumption | omega⟩ | exact .inr ⟨_, _, rfl, (Int.toNat_of_nonneg (by omega)).symm⟩) (by omega) (by omega) (by omega))) (by simp only [Int.toNat_natCast, Int.toNat_one, Int.toNat_zero, Int.reduceToNat, Nat.zero_mul, Nat.one_mul, Nat.sub_zero, Nat.add_sub_cancel, nl, nz, Nat.reduceAdd, Nat.reduceMul, Int.reduceToNat]; exact rfl) ?_
        refine jc [0] G2 (by simp [jOb, okL_b32, mapL_b32]) (by simp [jEb, jOb, jMb, mapL_cellsR, okL_cellsR, okL_b32, mapL_b32]) ?_; rintro _ _ ⟨rfl, rfl⟩ -; simp only [jPg, jMb, ll, Nat.reduceAdd, Nat.reduceLT, Nat.zero_add, if_true, if_false, Nat.reduceSub, reduceIte, mapL_cellsR, Nat.lt_irrefl, Nat.not_lt_zero, Nat.zero_lt_succ, Nat.lt_add_one, okL_b32, mapL_b32]
        refine jo ?_
        refine js ?_
        refine je ?_
        refine jg ?_
        refine jW ?_
        refine jo ?_
        refine je ?_
        refine WS.nil ?_
        exact ⟨3, by omega, by omega, (jSn [0,1,2] (by simp [jVb, jOb, jMb, mapL_cellsR, okL_cellsR, DVs, okL_b32, mapL_b32]) (by simp only [jSl, jOb, jMb, Nat.reduceAdd, Nat.reduceLT, DVs, okL_b32, mapL_b32] <;> exact jClo))⟩
      · simp only [DVs]
        refine jq ?_
        refine jg ?_
        refine jB true ?_
        refine je ?_
        refine jq ?_
        refine WS.pcondT rfl rfl ?_
        refine WS.pskip rfl ?_
        refine jq ?_
        refine WS.pblock rfl ?_
        refine jq ?_
        refine jg ?_
        iterate 4 refine jo ?_
        refine je ?_
        refine jg ?_
        iterate 3 refine jo ?_
        iterate 2 refine jW ?_
        refine WS.poV (tb := tb) rfl rfl rfl rfl (step_P (evP_sliceC (a := 16) rfl rfl rfl rfl rfl rfl (by first | exact .inl ⟨rfl, rfl⟩ | exact .inr ⟨_, _, rfl, rfl⟩ | exact .inr ⟨_, _, rfl, by first | assumption | omega⟩ | exact .inr ⟨_, _, rfl, (Int.toNat_of_nonneg (by omega)).symm⟩) (by first | exact .inl ⟨rfl, rfl⟩ | exact .inr ⟨_, _, rfl, rfl⟩ | exact .inr ⟨_, _, rfl, by first | assumption | omega⟩ | exact .inr ⟨_, _, rfl, (Int.toNat_of_nonneg (by omega)).symm⟩) (by omega) (by omega) (by omega))) (by simp only [Int.toNat_natCast, Int.toNat_one, Int.toNat_zero, Int.reduceToNat, Nat.zero_mul, Nat.one_mul, Nat.sub_zero, Nat.add_sub_cancel, nl, nz, Nat.reduceAdd, Nat.reduceMul, Int.reduceToNat]; exact rfl) ?_
        refine jc [0] G3 (by simp [jOb, okL_b32, mapL_b32]) (by simp [jEb, jOb, jMb, mapL_cellsR, okL_cellsR, okL_b32, mapL_b32]) ?_; rintro _ _ ⟨rfl, rfl⟩ -; simp only [jPg, jMb, ll, Nat.reduceAdd, Nat.reduceLT, Nat.zero_add, if_true, if_false, Nat.reduceSub, reduceIte, mapL_cellsR, Nat.lt_irrefl, Nat.not_lt_zero, Nat.zero_lt_succ, Nat.lt_add_one, okL_b32, mapL_b32]
        refine jo ?_
        refine js ?_
        refine je ?_
        refine jg ?_
        refine jW ?_
        refine jo ?_
        refine je ?_
        refine WS.nil ?_
        exact ⟨4, by omega, by omega, (jSn [0,1,2] (by simp [jVb, jOb, jMb, mapL_cellsR, okL_cellsR, DVs, okL_b32, mapL_b32]) (by simp only [jSl, jOb, jMb, Nat.reduceAdd, Nat.reduceLT, DVs, okL_b32, mapL_b32] <;> exact jClo))⟩
      · simp only [DVs]
        refine jq ?_
        refine jg ?_
        refine jB true ?_
        refine je ?_
        refine jq ?_
        refine WS.pcondT rfl rfl ?_
        refine WS.pskip rfl ?_
        refine jq ?_
        refine WS.pblock rfl ?_
        refine jq ?_
        refine jg ?_
        iterate 4 refine jo ?_
        refine je ?_
        refine jg ?_
        iterate 3 refine jo ?_
        iterate 2 refine jW ?_
        refine WS.poV (tb := tb) rfl rfl rfl rfl (step_P (evP_sliceC (a := 20) rfl rfl rfl rfl rfl rfl (by first | exact .inl ⟨rfl, rfl⟩ | exact .inr ⟨_, _, rfl, rfl⟩ | exact .inr ⟨_, _, rfl, by first | assumption | omega⟩ | exact .inr ⟨_, _, rfl, (Int.toNat_of_nonneg (by omega)).symm⟩) (by first | exact .inl ⟨rfl, rfl⟩ | exact .inr ⟨_, _, rfl, rfl⟩ | exact .inr ⟨_, _, rfl, by first | assumption | omega⟩ | exact .inr ⟨_, _, rfl, (Int.toNat_of_nonneg (by omega)).symm⟩) (by omega) (by omega) (by omega))) (by simp only [Int.toNat_natCast, Int.toNat_one, Int.toNat_zero, Int.reduceToNat, Nat.zero_mul, Nat.one_mul, Nat.sub_zero, Nat.add_sub_cancel, nl, nz, Nat.reduceAdd, Nat.reduceMul, Int.reduceToNat]; exact rfl) ?_
        refine jc [0] G4 (by simp [jOb, okL_b32, mapL_b32]) (by simp [jEb, jOb, jMb, mapL_cellsR, okL_cellsR, okL_b32, mapL_b32]) ?_; rintro _ _ ⟨rfl, rfl⟩ -; simp only [jPg, jMb, ll, Nat.reduceAdd, Nat.reduceLT, Nat.zero_add, if_true, if_false, Nat.reduceSub, reduceIte, mapL_cellsR, Nat.lt_irrefl, Nat.not_lt_zero, Nat.zero_lt_succ, Nat.lt_add_one, okL_b32, mapL_b32]
        refine jo ?_
        refine js ?_
        refine je ?_
        refine jg ?_
        refine jW ?_
        refine jo ?_
        refine je ?_
        refine WS.nil ?_
        exact ⟨5, by omega, by omega, (jSn [0,1,2] (by simp [jVb, jOb, jMb, mapL_cellsR, okL_cellsR, DVs, okL_b32, mapL_b32]) (by simp only [jSl, jOb, jMb, Nat.reduceAdd, Nat.reduceLT, DVs, okL_b32, mapL_b32] <;> exact jClo))⟩
      · simp only [DVs]
        refine jq ?_
        refine jg ?_
        refine jB true ?_
        refine je ?_
        refine jq ?_
        refine WS.pcondT rfl rfl ?_
        refine WS.pskip rfl ?_
        refine jq ?_
        refine WS.pblock rfl ?_
        refine jq ?_
        refine jg ?_
        iterate 4 refine jo ?_
        refine je ?_
        refine jg ?_
        iterate 3 refine jo ?_
        iterate 2 refine jW ?_
        refine WS.poV (tb := tb) rfl rfl rfl rfl (step_P (evP_sliceC (a := 24) rfl rfl rfl rfl rfl rfl (by first | exact .inl ⟨rfl, rfl⟩ | exact .inr ⟨_, _, rfl, rfl⟩ | exact .inr ⟨_, _, rfl, by first | assumption | omega⟩ | exact .inr ⟨_, _, rfl, (Int.toNat_of_nonneg (by omega)).symm⟩) (by first | exact .inl ⟨rfl, rfl⟩ | exact .inr ⟨_, _, rfl, rfl⟩ | exact .inr ⟨_, _, rfl, by first | assumption | omega⟩ | exact .inr ⟨_, _, rfl, (Int.toNat_of_nonneg (by omega)).symm⟩) (by omega) (by omega) (by omega))) (by simp only [Int.toNat_natCast, Int.toNat_one, Int.toNat_zero, Int.reduceToNat, Nat.zero_mul, Nat.one_mul, Nat.sub_zero, Nat.add_sub_cancel, nl, nz, Nat.reduceAdd, Nat.reduceMul, Int.reduceToNat]; exact rfl) ?_
        refine jc [0] G5 (by simp [jOb, okL_b32, mapL_b32]) (by simp [jEb, jOb, jMb, mapL_cellsR, okL_cellsR, okL_b32, mapL_b32]) ?_; rintro _ _ ⟨rfl, rfl⟩ -; simp only [jPg, jMb, ll, Nat.reduceAdd, Nat.reduceLT, Nat.zero_add, if_true, if_false, Nat.reduceSub, reduceIte, mapL_cellsR, Nat.lt_irrefl, Nat.not_lt_zero, Nat.zero_lt_succ, Nat.lt_add_one, okL_b32, mapL_b32]
        refine jo ?_
        refine js ?_
        refine je ?_
        refine jg ?_
        refine jW ?_
        refine jo ?_
        refine je ?_
        refine WS.nil ?_
        exact ⟨6, by omega, by omega, (jSn [0,1,2] (by simp [jVb, jOb, jMb, mapL_cellsR, okL_cellsR, DVs, okL_b32, mapL_b32]) (by simp only [jSl, jOb, jMb, Nat.reduceAdd, Nat.reduceLT, DVs, okL_b32, mapL_b32] <;> exact jClo))⟩
    · obtain rfl : i = 6 := by omega
      simp only [DVs]
      refine jq ?_
      refine jg ?_
      refine jB false ?_
      refine je ?_
      refine jq ?_
      refine WS.pcondF rfl rfl ?_
      refine WS.pout rfl rfl ?_
      exact ⟨rfl, (), trivial, (jSn [0,1,2] (by simp [jVb, jOb, jMb, mapL_cellsR, okL_cellsR, DVs, okL_b32, mapL_b32]) (by simp only [jSl, jOb, jMb, Nat.reduceAdd, Nat.reduceLT, DVs, okL_b32, mapL_b32] <;> exact jClo))⟩
  · rintro _ -
    simp only [DVs]
    refine jq ?_
    refine WS.pdrawX (tb := tb) (by kernel_rfl) rfl (by kernel_rfl) ?_; (try refine WZ.keep (l := 0) rfl ?_)
    refine WZ.pP (tb := tb) rfl rfl rfl rfl rfl (by simp only [nl, nz, Nat.reduceAdd, Nat.reduceMul, Int.reduceToNat]; exact rfl) ?_
    refine WZ.pV (tb := tb) rfl rfl rfl rfl (rfl) (by simp only [Nat.reduceEqDiff, Nat.reduceSub, adv, Option.map_some, reduceIte, if_false, if_true, nl, nz, Nat.reduceAdd, Nat.reduceMul, Int.reduceToNat]; exact rfl) ?_
    refine WZ.p (tb := tb) rfl rfl rfl rfl rfl ?_
    refine WZ.pV (tb := tb) rfl rfl rfl rfl (evP_sliceC (a := 28) (b := 60) rfl rfl rfl rfl rfl rfl (by first | exact .inl ⟨rfl, rfl⟩ | exact .inr ⟨_, _, rfl, rfl⟩ | exact .inr ⟨_, _, rfl, by first | assumption | omega⟩ | exact .inr ⟨_, _, rfl, (Int.toNat_of_nonneg (by omega)).symm⟩) (by first | exact .inl ⟨rfl, rfl⟩ | exact .inr ⟨_, _, rfl, rfl⟩ | exact .inr ⟨_, _, rfl, by first | assumption | omega⟩ | exact .inr ⟨_, _, rfl, (Int.toNat_of_nonneg (by omega)).symm⟩) (by omega) (by omega) (by omega)) (by simp only [Int.toNat_natCast, Int.toNat_one, Int.toNat_zero, Int.reduceToNat, Nat.zero_mul, Nat.one_mul, Nat.sub_zero, Nat.add_sub_cancel, nl, nz, Nat.reduceAdd, Nat.reduceMul, Int.reduceToNat]; exact rfl) ?_
    refine WZ.e (tb := tb) rfl rfl rfl rfl (⟨rfl, rfl, rfl, evH_copyR rfl rfl rfl rfl rfl (by first | exact Nat.min_eq_left (by omega) | exact Nat.min_eq_right (by omega)) (by omega) (by omega) (hcp _ rfl) rfl (Nat.zero_le _) (by first | rfl | exact allI _ _) (by first | exact rfl | (simp only [vcells, List.length_cons, List.length_nil, cellsI_len, cellsB_len, List.length_set, List.length_replicate, List.length_append, List.length_map, List.length_take, List.length_drop, b32_len, hQl] <;> omega) | omega) (by first | exact rfl | (simp only [vcells, List.length_cons, List.length_nil, cellsI_len, cellsB_len, List.length_set, List.length_replicate, List.length_append, List.length_map, List.length_take, List.length_drop, b32_len, hQl] <;> omega) | omega)⟩) (by repeat (first | exact trivial | refine ⟨rfl, ?_⟩)) ?_; rw [upd_mem _ rfl]; simp only [vcells, List.set_cons_zero, List.set_cons_succ, (pg_pay k g0 g1 g2 g3 g4 g5 hQl), (pg_res k g0 g1 g2 g3 g4 g5 Q), okL_b32, mapL_b32]; (try simp only [setL, List.set_cons_zero, List.set_cons_succ])
    refine WZ.fin rfl (by kernel_rfl) (by repeat (first | exact trivial | refine ⟨rfl, ?_⟩)) ?_
    refine jq ?_
    refine jg ?_
    refine WS.poA (tb := tb) rfl rfl rfl rfl rfl (by simp only [List.drop_zero, List.drop_succ_cons, List.take_succ_cons, List.take_zero, b32_take]; exact rfl) ?_
    refine WS.po0 (tb := tb) rfl rfl rfl rfl (step_H rfl rfl (evH_store rfl rfl rfl rfl rfl (Nat.zero_le _) rfl (by simp [vcells]) (Nat.le_of_ble_eq_true rfl))) ?_; rw [upd_mem _ rfl]; simp only [vcells, List.set_cons_zero, List.set_cons_succ, (pg_pay k g0 g1 g2 g3 g4 g5 hQl), (pg_res k g0 g1 g2 g3 g4 g5 Q), okL_b32, mapL_b32]; (try simp only [setL, List.set_cons_zero, List.set_cons_succ])
    refine jo ?_
    refine je ?_
    refine WS.pret rfl ⟨.inr rfl, _, (resV2 (a := 2) (k := 3) (T := 30) (z := 39) rfl rfl rfl rfl rfl rfl), ?_⟩
    exact ⟨_, rfl, [0], [some ⟨cellsR (rwI .u8) I, 5, false⟩], .tup [.agg (pgV k g0 g1 g2 g3 g4 g5 Q), .i .i64 0], ⟨rfl, rfl, (by simp [jVb, jOb, jMb, mapL_cellsR, okL_cellsR, okL_b32, mapL_b32]), rfl⟩, rfl, ⟨okL_pgV _ _ _ _ _ _ _ _ _, trivial, trivial⟩, rfl, rfl⟩
end Go.Proofs.Ytnogdgdkeojlpaa.Am

