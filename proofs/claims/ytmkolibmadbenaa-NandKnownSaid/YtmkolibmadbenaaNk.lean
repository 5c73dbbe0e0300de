/- NandKnown answers true in every world. No conditions. -/
import Derived.Test.YtmkolibmadbenaaNs2
namespace Go.Proofs.Ytmkolibmadbenaa.Am
open Go.Proofs
set_option maxRecDepth 1000000
set_option maxHeartbeats 4000000
set_option linter.unusedSimpArgs false
set_option linter.unusedVariables false
def d1 : List Int := over2 b1 0 (List.replicate 272 0)
def d2 : List Int := over2 (over2 d1 0 (List.replicate 272 0)) 0 (List.replicate 272 255)
def d3 : List Int := bsK d2 (r68 7) 0 17
def k1c : NS := ⟨4, b1, [⟨1, false, false, 0⟩, ⟨0, false, false, 0⟩], false, 1, -1, 0, 1, 0⟩
def u1 : NS := ⟨4, d1, [⟨0, false, true, 1⟩, ⟨0, false, false, 0⟩], true, 0, -1, 0, 1, 1⟩
def u2 : NS := ⟨4, d1, [⟨0, false, true, 1⟩, ⟨0, false, false, 0⟩], false, -1, -1, 0, 1, 1⟩
def u3 : NS := ⟨4, d1, [⟨0, false, true, 1⟩, ⟨0, false, false, 0⟩], false, -1, -1, 1, 1, 1⟩
def u4 : NS := ⟨4, d2, [⟨0, false, false, 2⟩, ⟨0, false, false, 0⟩], false, -1, -1, 1, 1, 2⟩
def u5 : NS := ⟨4, d3, [⟨1, false, false, 2⟩, ⟨0, false, false, 0⟩], false, -1, -1, 1, 2, 2⟩
theorem M1 : d1.length = 544 := by kernel_rfl
theorem M2 : d2.length = 544 := by kernel_rfl
theorem M3 : d3.length = 544 := by kernel_rfl
theorem x1 : erE k1c 0 (0 * 68) (k1c.p * 68) ⟨1, false, false, 0⟩ = 7 ∧ erS k1c 0 (0 * 68) (k1c.p * 68) ⟨1, false, false, 0⟩ = u1 := ⟨by kernel_rfl, by kernel_rfl⟩
theorem x4 : erE u3 0 (0 * 68) (u3.p * 68) ⟨0, false, true, 1⟩ = 0 ∧ erS u3 0 (0 * 68) (u3.p * 68) ⟨0, false, true, 1⟩ = u4 := ⟨by kernel_rfl, by kernel_rfl⟩
theorem x5 : prE u4 = 0 ∧ prS u4 0 0 0 (r68 7) ⟨0, false, false, 2⟩ = u5 := ⟨by kernel_rfl, by kernel_rfl⟩
theorem y2 : (u2.bs.drop (0 * 68)).take 68 = r68 0 := by kernel_rfl
theorem known_fm : FM Try.prog 3 [] [] (fun v M' => v = .b true ∧ M' = []) := by
  have AW := awake_fm
  have N := new24
  have N1 := nnew_bad 0 4 (by omega)
  have N2 := nnew_bad 2 33 (by omega)
  have A2 := a2
  have PG := page_walk 7
  have CU := cut_walk t1 1
  have eC : ({ t1 with cut := max 1 (-1) } : NS) = k1c := by kernel_rfl
  rw [eC] at CU
  have E1 := erase_go k1c 0 0 ⟨1, false, false, 0⟩ rfl (by decide) rfl rfl (by rw [show k1c.bs.length = 544 from L1]; decide) (by rw [show k1c.bs.length = 544 from L1]; decide) (by decide) rfl rfl (by decide) (by decide) (by decide) (by decide) (by decide) (by decide) (by decide) (by decide)
  rw [x1.1, x1.2] at E1
  have ON := on_walk u1
  have eO : ({ u1 with off := false, cut := -1 } : NS) = u2 := by kernel_rfl
  rw [eO] at ON
  have RD := read_ok u2 0 8 rfl (by omega) (by decide) (by omega) rfl M1 (by decide) (by decide)
  have eR : ({ u2 with rd := u2.rd + 1 } : NS) = u3 := by kernel_rfl
  rw [eR, y2] at RD
  have A3 := program_no u3 (r68 7) 0 68 8 0 0 false ⟨0, false, true, 1⟩ 8 rfl (by omega) (by omega) rfl rfl rfl (by decide) (by decide) (by decide) (by decide) (by simp [u3])
  have E2 := erase_go u3 0 0 ⟨0, false, true, 1⟩ rfl (by decide) rfl rfl (by rw [show u3.bs.length = 544 from M1]; decide) (by rw [show u3.bs.length = 544 from M1]; decide) (by decide) rfl rfl (by decide) (by decide) (by decide) (by decide) (by decide) (by decide) (by decide) (by decide)
  rw [x4.1, x4.2] at E2
  have A4 := program_go u4 (r68 7) 0 68 8 0 0 false ⟨0, false, false, 2⟩ rfl (by omega) (by omega) rfl rfl rfl (by decide) (by decide) (by decide) (by decide) rfl rfl rfl rfl M2 (L68 7) (by omega) (by decide) (by decide) (by decide) (by decide) (by decide) (by decide)
  rw [x5.1, x5.2] at A4
  have A5 := program_arg u5 (r68 7) 8 68 68 8 (some (3, 0)) false (.inr rfl) rfl (by omega) (by omega) (by omega) (by decide)
  have l0 : (cellsR (rwI .u8) (r68 0))[0]? = some (.i .u8 0) := by kernel_rfl
  have l67 : (cellsR (rwI .u8) (r68 0))[67]? = some (.i .u8 0) := by kernel_rfl
  simp only [ndM, ndR, dtB, t0, t1, k1c, u1, u2, u3, u4, u5, L0, L1, M1, M2, M3, List.length_cons, List.length_nil, Nat.reduceAdd, List.cons_append, List.nil_append, Int.ofNat_eq_natCast] at N A2 CU E1 ON RD A3 E2 A4 A5
  refine FM.pbodyV (tb := tb) (fn := Try.f3) rfl rfl ?_
  simp only [argS, Nat.reduceAdd, List.length_cons, List.length_nil]
  refine jq ?_
  refine jg ?_
  refine jo ?_
  refine je ?_
  iterate 2 refine jq ?_
  refine jg ?_
  refine jc [] AW (by simp [jOb]) (by simp [jEb, jOb, jMb, mapL_cellsR, okL_cellsR]) ?_; rintro _ _ ⟨rfl, rfl⟩ -; simp only [jPg, jMb, ll, Nat.reduceAdd, Nat.reduceLT, Nat.zero_add, if_true, if_false, Nat.reduceSub, reduceIte, mapL_cellsR, Nat.lt_irrefl, Nat.not_lt_zero, Nat.zero_lt_succ, Nat.lt_add_one]
  refine jB false ?_
  refine je ?_
  refine WS.pcondF rfl rfl ?_
  refine WS.pskip rfl ?_
  refine jq ?_
  refine jg ?_
  refine jc [] N1 (by simp [jOb]) (by simp [jEb, jOb, jMb, mapL_cellsR, okL_cellsR]) ?_; rintro _ _ ⟨rfl, rfl⟩ -; simp only [jPg, jMb, ll, Nat.reduceAdd, Nat.reduceLT, Nat.zero_add, if_true, if_false, Nat.reduceSub, reduceIte, mapL_cellsR, Nat.lt_irrefl, Nat.not_lt_zero, Nat.zero_lt_succ, Nat.lt_add_one]
  iterate 5 refine jo ?_
  refine je ?_
  refine jq ?_
  refine jg ?_
  refine jc [] N2 (by simp [jOb]) (by simp [jEb, jOb, jMb, mapL_cellsR, okL_cellsR]) ?_; rintro _ _ ⟨rfl, rfl⟩ -; simp only [jPg, jMb, ll, Nat.reduceAdd, Nat.reduceLT, Nat.zero_add, if_true, if_false, Nat.reduceSub, reduceIte, mapL_cellsR, Nat.lt_irrefl, Nat.not_lt_zero, Nat.zero_lt_succ, Nat.lt_add_one]
  iterate 5 refine jo ?_
  refine je ?_
  refine jq ?_
  refine jg ?_
  refine jc [] N (by simp [jOb]) (by simp [jEb, jOb, jMb, mapL_cellsR, okL_cellsR]) ?_; rintro _ _ ⟨rfl, rfl⟩ -; simp only [jPg, jMb, ll, Nat.reduceAdd, Nat.reduceLT, Nat.zero_add, if_true, if_false, Nat.reduceSub, reduceIte, mapL_cellsR, Nat.lt_irrefl, Nat.not_lt_zero, Nat.zero_lt_succ, Nat.lt_add_one]
  iterate 5 refine jo ?_
  refine je ?_
  refine jq ?_
  refine jg ?_
  refine jo ?_
  refine jc [] PG (by simp [jOb]) (by simp [jEb, jOb, jMb, mapL_cellsR, okL_cellsR]) ?_; rintro _ _ ⟨rfl, rfl⟩ -; simp only [jPg, jMb, ll, Nat.reduceAdd, Nat.reduceLT, Nat.zero_add, if_true, if_false, Nat.reduceSub, reduceIte, mapL_cellsR, Nat.lt_irrefl, Nat.not_lt_zero, Nat.zero_lt_succ, Nat.lt_add_one]
  refine jc [0,1,2,3] A2 (by simp [jOb]) (by simp [jEb, jOb, jMb, mapL_cellsR, okL_cellsR]) ?_; rintro _ _ ⟨rfl, rfl⟩ -; simp only [jPg, jMb, ll, Nat.reduceAdd, Nat.reduceLT, Nat.zero_add, if_true, if_false, Nat.reduceSub, reduceIte, mapL_cellsR, Nat.lt_irrefl, Nat.not_lt_zero, Nat.zero_lt_succ, Nat.lt_add_one]
  refine je ?_
  refine jq ?_
  refine jg ?_
  refine jo ?_
  refine jc [0,1,2] CU (by simp [jOb]) (by simp [jEb, jOb, jMb, mapL_cellsR, okL_cellsR]) ?_; rintro _ _ ⟨rfl, rfl⟩ -; simp only [jPg, jMb, ll, Nat.reduceAdd, Nat.reduceLT, Nat.zero_add, if_true, if_false, Nat.reduceSub, reduceIte, mapL_cellsR, Nat.lt_irrefl, Nat.not_lt_zero, Nat.zero_lt_succ, Nat.lt_add_one]
  refine je ?_
  refine jq ?_
  refine jg ?_
  refine jo ?_
  refine jc [0,1,2] E1 (by simp [jOb]) (by simp [jEb, jOb, jMb, mapL_cellsR, okL_cellsR]) ?_; rintro _ _ ⟨rfl, rfl⟩ -; simp only [jPg, jMb, ll, Nat.reduceAdd, Nat.reduceLT, Nat.zero_add, if_true, if_false, Nat.reduceSub, reduceIte, mapL_cellsR, Nat.lt_irrefl, Nat.not_lt_zero, Nat.zero_lt_succ, Nat.lt_add_one]
  refine jo ?_
  refine je ?_
  refine jq ?_
  refine jg ?_
  refine jo ?_
  refine jc [0,1,2] ON (by simp [jOb]) (by simp [jEb, jOb, jMb, mapL_cellsR, okL_cellsR]) ?_; rintro _ _ ⟨rfl, rfl⟩ -; simp only [jPg, jMb, ll, Nat.reduceAdd, Nat.reduceLT, Nat.zero_add, if_true, if_false, Nat.reduceSub, reduceIte, mapL_cellsR, Nat.lt_irrefl, Nat.not_lt_zero, Nat.zero_lt_succ, Nat.lt_add_one]
  refine je ?_
  refine jq ?_
  refine jg ?_
  refine jo ?_
  refine jc [0,1,2] RD (by simp [jOb]) (by simp [jEb, jOb, jMb, mapL_cellsR, okL_cellsR]) ?_; rintro _ _ ⟨rfl, rfl⟩ -; simp only [jPg, jMb, ll, Nat.reduceAdd, Nat.reduceLT, Nat.zero_add, if_true, if_false, Nat.reduceSub, reduceIte, mapL_cellsR, Nat.lt_irrefl, Nat.not_lt_zero, Nat.zero_lt_succ, Nat.lt_add_one]
  iterate 5 refine jo ?_
  refine je ?_
  refine jq ?_
  refine jg ?_
  refine jo ?_
  refine jc [] PG (by simp [jOb]) (by simp [jEb, jOb, jMb, mapL_cellsR, okL_cellsR]) ?_; rintro _ _ ⟨rfl, rfl⟩ -; simp only [jPg, jMb, ll, Nat.reduceAdd, Nat.reduceLT, Nat.zero_add, if_true, if_false, Nat.reduceSub, reduceIte, mapL_cellsR, Nat.lt_irrefl, Nat.not_lt_zero, Nat.zero_lt_succ, Nat.lt_add_one]
  refine jc [0,1,2,5] A3 (by simp [jOb]) (by simp [jEb, jOb, jMb, mapL_cellsR, okL_cellsR]) ?_; rintro _ _ ⟨rfl, rfl⟩ -; simp only [jPg, jMb, ll, Nat.reduceAdd, Nat.reduceLT, Nat.zero_add, if_true, if_false, Nat.reduceSub, reduceIte, mapL_cellsR, Nat.lt_irrefl, Nat.not_lt_zero, Nat.zero_lt_succ, Nat.lt_add_one]
  refine jo ?_
  refine je ?_
  refine jq ?_
  refine jg ?_
  refine jo ?_
  refine jc [0,1,2] E2 (by simp [jOb]) (by simp [jEb, jOb, jMb, mapL_cellsR, okL_cellsR]) ?_; rintro _ _ ⟨rfl, rfl⟩ -; simp only [jPg, jMb, ll, Nat.reduceAdd, Nat.reduceLT, Nat.zero_add, if_true, if_false, Nat.reduceSub, reduceIte, mapL_cellsR, Nat.lt_irrefl, Nat.not_lt_zero, Nat.zero_lt_succ, Nat.lt_add_one]
  refine jo ?_
  refine je ?_
  refine jq ?_
  refine jg ?_
  refine jo ?_
  refine jc [] PG (by simp [jOb]) (by simp [jEb, jOb, jMb, mapL_cellsR, okL_cellsR]) ?_; rintro _ _ ⟨rfl, rfl⟩ -; simp only [jPg, jMb, ll, Nat.reduceAdd, Nat.reduceLT, Nat.zero_add, if_true, if_false, Nat.reduceSub, reduceIte, mapL_cellsR, Nat.lt_irrefl, Nat.not_lt_zero, Nat.zero_lt_succ, Nat.lt_add_one]
  refine jc [0,1,2,6] A4 (by simp [jOb]) (by simp [jEb, jOb, jMb, mapL_cellsR, okL_cellsR]) ?_; rintro _ _ ⟨rfl, rfl⟩ -; simp only [jPg, jMb, ll, Nat.reduceAdd, Nat.reduceLT, Nat.zero_add, if_true, if_false, Nat.reduceSub, reduceIte, mapL_cellsR, Nat.lt_irrefl, Nat.not_lt_zero, Nat.zero_lt_succ, Nat.lt_add_one]
  refine jo ?_
  refine je ?_
  refine jq ?_
  refine jg ?_
  refine jo ?_
  refine jc [] PG (by simp [jOb]) (by simp [jEb, jOb, jMb, mapL_cellsR, okL_cellsR]) ?_; rintro _ _ ⟨rfl, rfl⟩ -; simp only [jPg, jMb, ll, Nat.reduceAdd, Nat.reduceLT, Nat.zero_add, if_true, if_false, Nat.reduceSub, reduceIte, mapL_cellsR, Nat.lt_irrefl, Nat.not_lt_zero, Nat.zero_lt_succ, Nat.lt_add_one]
  refine jc [0,1,2,7] A5 (by simp [jOb]) (by simp [jEb, jOb, jMb, mapL_cellsR, okL_cellsR]) ?_; rintro _ _ ⟨rfl, rfl⟩ -; simp only [jPg, jMb, ll, Nat.reduceAdd, Nat.reduceLT, Nat.zero_add, if_true, if_false, Nat.reduceSub, reduceIte, mapL_cellsR, Nat.lt_irrefl, Nat.not_lt_zero, Nat.zero_lt_succ, Nat.lt_add_one]
  refine jo ?_
  refine je ?_
  refine jq ?_
  refine jg ?_
  refine jo ?_
  refine jB true ?_
  iterate 2 refine jo ?_
  refine jB true ?_
  iterate 3 refine jo ?_
  refine jB true ?_
  iterate 3 refine jo ?_
  refine jB true ?_
  iterate 4 refine jo ?_
  refine jB true ?_
  iterate 3 refine jo ?_
  refine WS.poP (tb := tb) rfl rfl rfl rfl (step_P (evP_index rfl rfl rfl rfl rfl rfl (by simp only [Bk_len, vcells, List.length_cons, List.length_nil, cellsI_len, cellsB_len, List.length_set, List.length_replicate, List.length_append, List.length_map, List.length_take, List.length_drop]; omega))) (by simp only [Nat.zero_add, Nat.add_zero, Nat.reduceAdd, Nat.reduceMul, Nat.add_assoc, Nat.mul_one]; exact rfl) ?_
  refine jo ?_
  refine jB true ?_
  iterate 3 refine jo ?_
  refine WS.poP (tb := tb) rfl rfl rfl rfl (step_P (evP_index rfl rfl rfl rfl rfl rfl (by simp only [Bk_len, vcells, List.length_cons, List.length_nil, cellsI_len, cellsB_len, List.length_set, List.length_replicate, List.length_append, List.length_map, List.length_take, List.length_drop]; omega))) (by simp only [Nat.zero_add, Nat.add_zero, Nat.reduceAdd, Nat.reduceMul, Nat.add_assoc, Nat.mul_one]; exact rfl) ?_
  refine jo ?_
  refine jB true ?_
  iterate 3 refine jo ?_
  refine jB true ?_
  iterate 3 refine jo ?_
  refine jB true ?_
  iterate 3 refine jo ?_
  refine jB true ?_
  iterate 3 refine jo ?_
  refine jB true ?_
  iterate 2 refine jo ?_
  refine je ?_
  refine WS.pret rfl ⟨.inr rfl, _, rfl, ?_⟩
  exact ⟨_, rfl, [], [], .b true, ⟨rfl, rfl, trivial, rfl⟩, rfl, trivial, rfl, rfl⟩
theorem known_calls (w : World) : Calls Try.prog 3 #[] w (fun e w' => e = .returned (.bool true) ∧ Go.RowKit.Below w.heap.size w w') := FM.top (known_fm.mono fun _ _ h => h.1) trivial w
end Go.Proofs.Ytmkolibmadbenaa.Am

