/- Functions of the flash, walked. Conditions: those of each theorem. -/
import Derived.Test.YtmkolibmadbenaaNs1
namespace Go.Proofs.Ytmkolibmadbenaa.Am
open Go.Proofs
set_option maxRecDepth 1000000
set_option maxHeartbeats 4000000
set_option linter.unusedSimpArgs false
set_option linter.unusedVariables false
def b0 : List Int := List.replicate 544 255
def b1 : List Int := bsK b0 (r68 7) 0 17
def b2 : List Int := bsK b1 (r68 7) 1 3
def b3 : List Int := bsK b2 (r68 7) 2 4
def b4 : List Int := over2 (over2 b3 272 (List.replicate 272 0)) 272 (List.replicate 272 255)
def t0 : NS := ⟨4, b0, [⟨0, false, false, 0⟩, ⟨0, false, false, 0⟩], false, -1, -1, 0, 0, 0⟩
def t1 : NS := ⟨4, b1, [⟨1, false, false, 0⟩, ⟨0, false, false, 0⟩], false, -1, -1, 0, 1, 0⟩
def t2 : NS := ⟨4, b1, [⟨1, false, false, 0⟩, ⟨0, false, false, 0⟩], false, 3, -1, 0, 1, 0⟩
def t3 : NS := ⟨4, b2, [⟨2, false, false, 0⟩, ⟨0, false, false, 0⟩], true, 0, -1, 0, 2, 0⟩
def t4 : NS := ⟨4, b2, [⟨2, false, false, 0⟩, ⟨0, false, false, 0⟩], false, -1, -1, 0, 2, 0⟩
def t5 : NS := ⟨4, b2, [⟨2, false, false, 0⟩, ⟨0, false, false, 0⟩], false, -1, 0, 0, 2, 0⟩
def t6 : NS := ⟨4, b3, [⟨3, true, false, 0⟩, ⟨0, false, false, 0⟩], false, -1, -1, 0, 3, 0⟩
def t7 : NS := ⟨4, b4, [⟨3, true, false, 0⟩, ⟨0, false, false, 1⟩], false, -1, -1, 0, 3, 1⟩
def t8 : NS := ⟨4, b4, [⟨3, true, false, 0⟩, ⟨0, false, false, 1⟩], false, -1, -1, 1, 3, 1⟩
def t9 : NS := ⟨4, b4, [⟨3, true, false, 0⟩, ⟨0, false, false, 1⟩], false, -1, -1, 2, 3, 1⟩
def t10 : NS := ⟨4, b4, [⟨3, true, false, 0⟩, ⟨0, false, false, 1⟩], false, -1, -1, 3, 3, 1⟩
theorem L0 : b0.length = 544 := by kernel_rfl
theorem L1 : b1.length = 544 := by kernel_rfl
theorem L2 : b2.length = 544 := by kernel_rfl
theorem L3 : b3.length = 544 := by kernel_rfl
theorem L4 : b4.length = 544 := by kernel_rfl
theorem c0 : (t7.bs.drop (0 * 68)).take 68 = List.replicate 68 7 ++ List.replicate (68 - 68) 255 := by kernel_rfl
theorem c1 : (t8.bs.drop (1 * 68)).take 68 = List.replicate 12 7 ++ List.replicate (68 - 12) 255 := by kernel_rfl
theorem c2 : (t9.bs.drop (2 * 68)).take 68 = List.replicate 16 7 ++ List.replicate (68 - 16) 255 := by kernel_rfl
theorem L68 (v : Int) : 68 ≤ (r68 v).length := by unfold r68; rw [List.length_replicate]; omega
theorem s1 : prE t0 = 0 ∧ prS t0 0 0 0 (r68 7) ⟨0, false, false, 0⟩ = t1 := ⟨by kernel_rfl, by kernel_rfl⟩
theorem s3 : prE t2 = 7 ∧ prS t2 1 0 1 (r68 7) ⟨1, false, false, 0⟩ = t3 := ⟨by kernel_rfl, by kernel_rfl⟩
theorem s6 : prE t5 = 6 ∧ prS t5 2 0 2 (r68 7) ⟨2, false, false, 0⟩ = t6 := ⟨by kernel_rfl, by kernel_rfl⟩
theorem s7 : erE t6 1 (4 * 68) (t6.p * 68) ⟨0, false, false, 0⟩ = 0 ∧ erS t6 1 (4 * 68) (t6.p * 68) ⟨0, false, false, 0⟩ = t7 := ⟨by kernel_rfl, by kernel_rfl⟩
theorem im10 : (imI t10).length = 548 := by kernel_rfl
theorem new24 : FM Try.prog 9 [.i .i64 2, .i .i64 4] [] (fun v M' => v = .tup [.p (some (2,0)), .i .i64 0] ∧ M' = ndM t0) := nnew_ok 2 4 8 (by omega) (by omega) (by omega) (by omega) rfl (by omega)
theorem a1 : FM Try.prog 10 [.p (some (2,0)), .i .i64 1, .sl (some (3,0)) 68 68 false] (ndM t0 ++ dtB (r68 7)) (fun v M' => v = .i .i64 8 ∧ M' = ndM t0 ++ dtB (r68 7)) := program_no t0 (r68 7) 1 68 8 0 1 false ⟨0, false, false, 0⟩ 8 rfl (by omega) (by omega) rfl rfl rfl (by decide) (by decide) (by decide) (by decide) (by simp [t0])
theorem a2 : FM Try.prog 10 [.p (some (2,0)), .i .i64 0, .sl (some (3,0)) 68 68 false] (ndM t0 ++ dtB (r68 7)) (fun v M' => v = .i .i64 0 ∧ M' = ndM t1 ++ dtB (r68 7)) := by
  have := program_go t0 (r68 7) 0 68 8 0 0 false ⟨0, false, false, 0⟩ rfl (by omega) (by omega) rfl rfl rfl (by decide) (by decide) (by decide) (by decide) rfl rfl rfl rfl L0 (L68 7) (by omega) (by decide) (by decide) (by decide) (by decide) (by decide) (by decide)
  rwa [s1.1, s1.2] at this
theorem a3 : FM Try.prog 10 [.p (some (2,0)), .i .i64 1, .sl (some (3,0)) 68 68 false] (ndM t2 ++ dtB (r68 7)) (fun v M' => v = .i .i64 7 ∧ M' = ndM t3 ++ dtB (r68 7)) := by
  have := program_go t2 (r68 7) 1 68 8 0 1 false ⟨1, false, false, 0⟩ rfl (by omega) (by omega) rfl rfl rfl (by decide) (by decide) (by decide) (by decide) rfl rfl rfl rfl L1 (L68 7) (by omega) (by decide) (by decide) (by decide) (by decide) (by decide) (by decide)
  rwa [s3.1, s3.2] at this
theorem a4 : FM Try.prog 10 [.p (some (2,0)), .i .i64 2, .sl (some (3,0)) 68 68 false] (ndM t5 ++ dtB (r68 7)) (fun v M' => v = .i .i64 6 ∧ M' = ndM t6 ++ dtB (r68 7)) := by
  have := program_go t5 (r68 7) 2 68 8 0 2 false ⟨2, false, false, 0⟩ rfl (by omega) (by omega) rfl rfl rfl (by decide) (by decide) (by decide) (by decide) rfl rfl rfl rfl L2 (L68 7) (by omega) (by decide) (by decide) (by decide) (by decide) (by decide) (by decide)
  rwa [s6.1, s6.2] at this
theorem a5 : FM Try.prog 13 [.p (some (2,0)), .i .i64 1] (ndM t6) (fun v M' => v = .i .i64 0 ∧ M' = ndM t7) := by
  have := erase_go t6 1 4 ⟨0, false, false, 0⟩ rfl (by decide) rfl rfl (by rw [show t6.bs.length = 544 from L3]; decide) (by rw [show t6.bs.length = 544 from L3]; decide) (by decide) rfl rfl (by decide) (by decide) (by decide) (by decide) (by decide) (by decide) (by decide) (by decide)
  rwa [s7.1, s7.2] at this
theorem awake_fm : FM Try.prog 8 [] [] (fun v M' => v = .b true ∧ M' = []) := by
  have CU := cut_walk t1 3
  have PW3 := power_walk t3
  have RD := read_no t3 0 8 7 rfl (by omega) (by decide) (.inr ⟨by omega, rfl, rfl⟩)
  have ON := on_walk t3
  have NX := next_yes t4 0 ⟨2, false, false, 0⟩ rfl (by decide)
  have FA := failc_walk t4 0
  have BD := badq_yes t6 0 ⟨3, true, false, 0⟩ rfl (by decide)
  have ST := stat_walk t7
  have PW7 := power_walk t7
  have V0 := sevens_walk t7 0 8 68 rfl (by omega) (by decide) (by omega) rfl L4 (by decide) (by decide) (by omega) c0
  have V1 := sevens_walk t8 1 8 12 rfl (by omega) (by decide) (by omega) rfl L4 (by decide) (by decide) (by omega) c1
  have V2 := sevens_walk t9 2 8 16 rfl (by omega) (by decide) (by omega) rfl L4 (by decide) (by decide) (by omega) c2
  have IM := image_walk t10 (by rw [show t10.bs.length = 544 from L4]; omega) (by rw [show t10.bs.length = 544 from L4]; omega) (by decide) (by decide)
  rw [im10] at IM
  have eC : ({ t1 with cut := max 3 (-1) } : NS) = t2 := by kernel_rfl
  have eO : ({ t3 with off := false, cut := -1 } : NS) = t4 := by kernel_rfl
  have eF : ({ t4 with fail := max 0 (-1) } : NS) = t5 := by kernel_rfl
  have e8 : ({ t7 with rd := t7.rd + 1 } : NS) = t8 := by kernel_rfl
  have e9 : ({ t8 with rd := t8.rd + 1 } : NS) = t9 := by kernel_rfl
  have e10 : ({ t9 with rd := t9.rd + 1 } : NS) = t10 := by kernel_rfl
  rw [eC] at CU
  rw [eO] at ON
  rw [eF] at FA
  rw [e8] at V0
  rw [e9] at V1
  rw [e10] at V2
  have N := new24
  have A1 := a1
  have A2 := a2
  have A3 := a3
  have A4 := a4
  have A5 := a5
  have PG := page_walk 7
  simp only [ndM, ndR, dtB, t0, t1, t2, t3, t4, t5, t6, t7, t8, t9, t10, L0, L1, L2, L3, L4, List.length_cons, List.length_nil, Nat.reduceAdd, List.cons_append, List.nil_append, Int.ofNat_eq_natCast] at N A1 A2 A3 A4 A5 CU PW3 RD ON NX FA BD ST PW7 V0 V1 V2 IM
  refine FM.pbodyV (tb := tb) (fn := Try.f8) rfl rfl ?_
  simp only [argS, Nat.reduceAdd, List.length_cons, List.length_nil]
  refine jq ?_
  refine jg ?_
  refine jo ?_
  refine je ?_
  refine jq ?_
  refine jg ?_
  refine jc [] N (by simp [jOb]) (by simp [jEb, jOb, jMb, mapL_cellsR, okL_cellsR]) ?_; rintro _ _ ⟨rfl, rfl⟩ -; simp only [jPg, jMb, ll, Nat.reduceAdd, Nat.reduceLT, Nat.zero_add, if_true, if_false, Nat.reduceSub, reduceIte, mapL_cellsR, Nat.lt_irrefl, Nat.not_lt_zero, Nat.zero_lt_succ, Nat.lt_add_one]
  iterate 5 refine jo ?_
  refine je ?_
  iterate 2 refine jq ?_
  refine jg ?_
  refine jo ?_
  refine jB false ?_
  iterate 2 refine jo ?_
  refine jB false ?_
  refine jo ?_
  refine je ?_
  refine WS.pcondF rfl rfl ?_
  refine WS.pskip rfl ?_
  refine jq ?_
  refine jg ?_
  refine jo ?_
  refine jc [] PG (by simp [jOb]) (by simp [jEb, jOb, jMb, mapL_cellsR, okL_cellsR]) ?_; rintro _ _ ⟨rfl, rfl⟩ -; simp only [jPg, jMb, ll, Nat.reduceAdd, Nat.reduceLT, Nat.zero_add, if_true, if_false, Nat.reduceSub, reduceIte, mapL_cellsR, Nat.lt_irrefl, Nat.not_lt_zero, Nat.zero_lt_succ, Nat.lt_add_one]
  refine jc [0,1,2,3] A1 (by simp [jOb]) (by simp [jEb, jOb, jMb, mapL_cellsR, okL_cellsR]) ?_; rintro _ _ ⟨rfl, rfl⟩ -; simp only [jPg, jMb, ll, Nat.reduceAdd, Nat.reduceLT, Nat.zero_add, if_true, if_false, Nat.reduceSub, reduceIte, mapL_cellsR, Nat.lt_irrefl, Nat.not_lt_zero, Nat.zero_lt_succ, Nat.lt_add_one]
  refine jo ?_
  refine je ?_
  refine jq ?_
  refine jg ?_
  refine jo ?_
  refine jc [] PG (by simp [jOb]) (by simp [jEb, jOb, jMb, mapL_cellsR, okL_cellsR]) ?_; rintro _ _ ⟨rfl, rfl⟩ -; simp only [jPg, jMb, ll, Nat.reduceAdd, Nat.reduceLT, Nat.zero_add, if_true, if_false, Nat.reduceSub, reduceIte, mapL_cellsR, Nat.lt_irrefl, Nat.not_lt_zero, Nat.zero_lt_succ, Nat.lt_add_one]
  refine jc [0,1,2,4] A2 (by simp [jOb]) (by simp [jEb, jOb, jMb, mapL_cellsR, okL_cellsR]) ?_; rintro _ _ ⟨rfl, rfl⟩ -; simp only [jPg, jMb, ll, Nat.reduceAdd, Nat.reduceLT, Nat.zero_add, if_true, if_false, Nat.reduceSub, reduceIte, mapL_cellsR, Nat.lt_irrefl, Nat.not_lt_zero, Nat.zero_lt_succ, Nat.lt_add_one]
  refine jo ?_
  refine je ?_
  refine jq ?_
  refine jg ?_
  refine jo ?_
  refine jc [0,1,2] CU (by simp [jOb]) (by simp [jEb, jOb, jMb, mapL_cellsR, okL_cellsR]) ?_; rintro _ _ ⟨rfl, rfl⟩ -; simp only [jPg, jMb, ll, Nat.reduceAdd, Nat.reduceLT, Nat.zero_add, if_true, if_false, Nat.reduceSub, reduceIte, mapL_cellsR, Nat.lt_irrefl, Nat.not_lt_zero, Nat.zero_lt_succ, Nat.lt_add_one]
  refine je ?_
  refine jq ?_
  refine jg ?_
  refine jo ?_
  refine jc [] PG (by simp [jOb]) (by simp [jEb, jOb, jMb, mapL_cellsR, okL_cellsR]) ?_; rintro _ _ ⟨rfl, rfl⟩ -; simp only [jPg, jMb, ll, Nat.reduceAdd, Nat.reduceLT, Nat.zero_add, if_true, if_false, Nat.reduceSub, reduceIte, mapL_cellsR, Nat.lt_irrefl, Nat.not_lt_zero, Nat.zero_lt_succ, Nat.lt_add_one]
  refine jc [0,1,2,5] A3 (by simp [jOb]) (by simp [jEb, jOb, jMb, mapL_cellsR, okL_cellsR]) ?_; rintro _ _ ⟨rfl, rfl⟩ -; simp only [jPg, jMb, ll, Nat.reduceAdd, Nat.reduceLT, Nat.zero_add, if_true, if_false, Nat.reduceSub, reduceIte, mapL_cellsR, Nat.lt_irrefl, Nat.not_lt_zero, Nat.zero_lt_succ, Nat.lt_add_one]
  refine jo ?_
  refine je ?_
  refine jq ?_
  refine jg ?_
  refine jo ?_
  refine jc [0,1,2] PW3 (by simp [jOb]) (by simp [jEb, jOb, jMb, mapL_cellsR, okL_cellsR]) ?_; rintro _ _ ⟨rfl, rfl⟩ -; simp only [jPg, jMb, ll, Nat.reduceAdd, Nat.reduceLT, Nat.zero_add, if_true, if_false, Nat.reduceSub, reduceIte, mapL_cellsR, Nat.lt_irrefl, Nat.not_lt_zero, Nat.zero_lt_succ, Nat.lt_add_one]
  refine jo ?_
  refine je ?_
  refine jq ?_
  refine jg ?_
  refine jo ?_
  refine jc [0,1,2] RD (by simp [jOb]) (by simp [jEb, jOb, jMb, mapL_cellsR, okL_cellsR]) ?_; rintro _ _ ⟨rfl, rfl⟩ -; simp only [jPg, jMb, ll, Nat.reduceAdd, Nat.reduceLT, Nat.zero_add, if_true, if_false, Nat.reduceSub, reduceIte, mapL_cellsR, Nat.lt_irrefl, Nat.not_lt_zero, Nat.zero_lt_succ, Nat.lt_add_one]
  iterate 5 refine jo ?_
  refine je ?_
  refine jq ?_
  refine jg ?_
  refine jo ?_
  refine jc [0,1,2] ON (by simp [jOb]) (by simp [jEb, jOb, jMb, mapL_cellsR, okL_cellsR]) ?_; rintro _ _ ⟨rfl, rfl⟩ -; simp only [jPg, jMb, ll, Nat.reduceAdd, Nat.reduceLT, Nat.zero_add, if_true, if_false, Nat.reduceSub, reduceIte, mapL_cellsR, Nat.lt_irrefl, Nat.not_lt_zero, Nat.zero_lt_succ, Nat.lt_add_one]
  refine je ?_
  refine jq ?_
  refine jg ?_
  refine jo ?_
  refine jc [0,1,2] NX (by simp [jOb]) (by simp [jEb, jOb, jMb, mapL_cellsR, okL_cellsR]) ?_; rintro _ _ ⟨rfl, rfl⟩ -; simp only [jPg, jMb, ll, Nat.reduceAdd, Nat.reduceLT, Nat.zero_add, if_true, if_false, Nat.reduceSub, reduceIte, mapL_cellsR, Nat.lt_irrefl, Nat.not_lt_zero, Nat.zero_lt_succ, Nat.lt_add_one]
  iterate 5 refine jo ?_
  refine je ?_
  refine jq ?_
  refine jg ?_
  refine jo ?_
  refine jc [0,1,2] FA (by simp [jOb]) (by simp [jEb, jOb, jMb, mapL_cellsR, okL_cellsR]) ?_; rintro _ _ ⟨rfl, rfl⟩ -; simp only [jPg, jMb, ll, Nat.reduceAdd, Nat.reduceLT, Nat.zero_add, if_true, if_false, Nat.reduceSub, reduceIte, mapL_cellsR, Nat.lt_irrefl, Nat.not_lt_zero, Nat.zero_lt_succ, Nat.lt_add_one]
  refine je ?_
  refine jq ?_
  refine jg ?_
  refine jo ?_
  refine jc [] PG (by simp [jOb]) (by simp [jEb, jOb, jMb, mapL_cellsR, okL_cellsR]) ?_; rintro _ _ ⟨rfl, rfl⟩ -; simp only [jPg, jMb, ll, Nat.reduceAdd, Nat.reduceLT, Nat.zero_add, if_true, if_false, Nat.reduceSub, reduceIte, mapL_cellsR, Nat.lt_irrefl, Nat.not_lt_zero, Nat.zero_lt_succ, Nat.lt_add_one]
  refine jc [0,1,2,6] A4 (by simp [jOb]) (by simp [jEb, jOb, jMb, mapL_cellsR, okL_cellsR]) ?_; rintro _ _ ⟨rfl, rfl⟩ -; simp only [jPg, jMb, ll, Nat.reduceAdd, Nat.reduceLT, Nat.zero_add, if_true, if_false, Nat.reduceSub, reduceIte, mapL_cellsR, Nat.lt_irrefl, Nat.not_lt_zero, Nat.zero_lt_succ, Nat.lt_add_one]
  refine jo ?_
  refine je ?_
  refine jq ?_
  refine jg ?_
  refine jo ?_
  refine jc [0,1,2] BD (by simp [jOb]) (by simp [jEb, jOb, jMb, mapL_cellsR, okL_cellsR]) ?_; rintro _ _ ⟨rfl, rfl⟩ -; simp only [jPg, jMb, ll, Nat.reduceAdd, Nat.reduceLT, Nat.zero_add, if_true, if_false, Nat.reduceSub, reduceIte, mapL_cellsR, Nat.lt_irrefl, Nat.not_lt_zero, Nat.zero_lt_succ, Nat.lt_add_one]
  iterate 5 refine jo ?_
  refine je ?_
  refine jq ?_
  refine jg ?_
  refine jo ?_
  refine jc [0,1,2] A5 (by simp [jOb]) (by simp [jEb, jOb, jMb, mapL_cellsR, okL_cellsR]) ?_; rintro _ _ ⟨rfl, rfl⟩ -; simp only [jPg, jMb, ll, Nat.reduceAdd, Nat.reduceLT, Nat.zero_add, if_true, if_false, Nat.reduceSub, reduceIte, mapL_cellsR, Nat.lt_irrefl, Nat.not_lt_zero, Nat.zero_lt_succ, Nat.lt_add_one]
  refine jo ?_
  refine je ?_
  refine jq ?_
  refine jg ?_
  refine jo ?_
  refine jc [0,1,2] ST (by simp [jOb]) (by simp [jEb, jOb, jMb, mapL_cellsR, okL_cellsR]) ?_; rintro _ _ ⟨rfl, rfl⟩ -; simp only [jPg, jMb, ll, Nat.reduceAdd, Nat.reduceLT, Nat.zero_add, if_true, if_false, Nat.reduceSub, reduceIte, mapL_cellsR, Nat.lt_irrefl, Nat.not_lt_zero, Nat.zero_lt_succ, Nat.lt_add_one]
  refine jn ?_
  refine js ?_
  refine je ?_
  refine jq ?_
  refine jg ?_
  refine jo ?_
  refine jB true ?_
  iterate 2 refine jo ?_
  refine jB true ?_
  iterate 3 refine jo ?_
  refine jB true ?_
  iterate 3 refine jo ?_
  refine jB true ?_
  iterate 3 refine jo ?_
  refine jB true ?_
  iterate 3 refine jo ?_
  refine jc [0,1,2] PW7 (by simp [jOb]) (by simp [jEb, jOb, jMb, mapL_cellsR, okL_cellsR]) ?_; rintro _ _ ⟨rfl, rfl⟩ -; simp only [jPg, jMb, ll, Nat.reduceAdd, Nat.reduceLT, Nat.zero_add, if_true, if_false, Nat.reduceSub, reduceIte, mapL_cellsR, Nat.lt_irrefl, Nat.not_lt_zero, Nat.zero_lt_succ, Nat.lt_add_one]
  iterate 3 refine jo ?_
  refine jB true ?_
  iterate 3 refine jo ?_
  refine jB true ?_
  iterate 3 refine jo ?_
  refine jB true ?_
  iterate 3 refine jo ?_
  refine jB true ?_
  iterate 6 refine jo ?_
  refine jB true ?_
  iterate 3 refine jo ?_
  refine jc [0,1,2] V0 (by simp [jOb]) (by simp [jEb, jOb, jMb, mapL_cellsR, okL_cellsR]) ?_; rintro _ _ ⟨rfl, rfl⟩ -; simp only [jPg, jMb, ll, Nat.reduceAdd, Nat.reduceLT, Nat.zero_add, if_true, if_false, Nat.reduceSub, reduceIte, mapL_cellsR, Nat.lt_irrefl, Nat.not_lt_zero, Nat.zero_lt_succ, Nat.lt_add_one]
  refine jB true ?_
  iterate 3 refine jo ?_
  refine jc [0,1,2] V1 (by simp [jOb]) (by simp [jEb, jOb, jMb, mapL_cellsR, okL_cellsR]) ?_; rintro _ _ ⟨rfl, rfl⟩ -; simp only [jPg, jMb, ll, Nat.reduceAdd, Nat.reduceLT, Nat.zero_add, if_true, if_false, Nat.reduceSub, reduceIte, mapL_cellsR, Nat.lt_irrefl, Nat.not_lt_zero, Nat.zero_lt_succ, Nat.lt_add_one]
  refine jB true ?_
  iterate 3 refine jo ?_
  refine jc [0,1,2] V2 (by simp [jOb]) (by simp [jEb, jOb, jMb, mapL_cellsR, okL_cellsR]) ?_; rintro _ _ ⟨rfl, rfl⟩ -; simp only [jPg, jMb, ll, Nat.reduceAdd, Nat.reduceLT, Nat.zero_add, if_true, if_false, Nat.reduceSub, reduceIte, mapL_cellsR, Nat.lt_irrefl, Nat.not_lt_zero, Nat.zero_lt_succ, Nat.lt_add_one]
  refine jB true ?_
  iterate 2 refine jo ?_
  refine jP ?_
  refine jo ?_
  refine jB true ?_
  iterate 2 refine jo ?_
  refine jP ?_
  refine jo ?_
  refine jB true ?_
  iterate 3 refine jo ?_
  refine jc [0,1,2] IM (by simp [jOb]) (by simp [jEb, jOb, jMb, mapL_cellsR, okL_cellsR]) ?_; rintro _ _ ⟨rfl, rfl⟩ -; simp only [jPg, jMb, ll, Nat.reduceAdd, Nat.reduceLT, Nat.zero_add, if_true, if_false, Nat.reduceSub, reduceIte, mapL_cellsR, Nat.lt_irrefl, Nat.not_lt_zero, Nat.zero_lt_succ, Nat.lt_add_one]
  refine jo ?_
  refine jB true ?_
  iterate 2 refine jo ?_
  refine je ?_
  refine WS.pret rfl ⟨.inr rfl, _, rfl, ?_⟩
  exact ⟨_, rfl, [], [], .b true, ⟨rfl, rfl, trivial, rfl⟩, rfl, trivial, rfl, rfl⟩
end Go.Proofs.Ytmkolibmadbenaa.Am

