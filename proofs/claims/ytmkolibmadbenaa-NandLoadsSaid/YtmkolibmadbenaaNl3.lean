/- Functions of the flash, walked. Conditions: those of each theorem. -/
import Derived.Test.YtmkolibmadbenaaAm5
import Derived.Test.YtmkolibmadbenaaNl2
namespace Go.Proofs.Ytmkolibmadbenaa.Am
open Go.Proofs
set_option maxRecDepth 1000000
set_option maxHeartbeats 4000000
set_option linter.unusedSimpArgs false
set_option linter.unusedVariables false
def ldSl (b p n c sz : Nat) (q : Bool) (j : Nat) : List (Nat × V) := [(0, .i .i64 b), (1, .i .i64 p), (2, .sl (some (0,0)) n c q), (8, .p (some (3,0))), (10, .i .i64 sz), (48, .i .i64 b), (49, .i .i64 j)]
theorem allB_take {I : List Int} {W o n : Nat} {v : Int} (h : o + n ≤ W) : allB (I.take W) o n v = allB I o n v := by
  unfold allB
  rw [List.drop_take, List.take_take, Nat.min_eq_left (by omega)]
theorem getD_get {I : List Int} {i : Nat} (h : i < I.length) : I[i]? = some (I.getD i 0) := by
  rw [List.getD_eq_getElem?_getD, List.getElem?_eq_getElem h]; rfl
theorem bkL_get (I : List Int) {W b j : Nat} (h : j < b) : (bkL I W b j)[j]? = some ⟨0, false, false, 0⟩ := by simp [bkL, h]
theorem bkL_put (I : List Int) {W b j : Nat} (h : j < b) {x : Int} {u t : Bool} (e : ldBk I W j = ⟨x, u, t, 0⟩) : setL (cellsR rwBk (bkL I W b j)) (j * 4) [.i .i64 x, .b u, .b t, .i .i64 0] = cellsR rwBk (bkL I W b (j + 1)) := by
  rw [← bkL_set I h, e]
  exact cellsR_set0 (R := rwBk) (bkL_get I h) (Nat.le_refl _) rfl
/-- What a load that fails leaves. -/
abbrev LdQ (I : List Int) : Ex → T V → LH → Prop := fun x t' h' => x = .r ∧ ∃ v, resV tb t' h' (Try.f28).results.toList = some v ∧ ∃ M1, h' = mem 0 M1 ∧ ∃ (w : List Nat) (M2 : List (Option Blk)) (v' : V), SeenM w 1 M1 M2 ∧ v = mapV (fun i => w.getD i 0) v' ∧ okV M2.length v' ∧ v' = .tup [.p none, .i .i64 11] ∧ M2 = [some ⟨cellsR (rwI .u8) I, 5, false⟩]
theorem ld_ok0 (b p W n c sz o : Nat) (q : Bool) (I : List Int) (h2 : b ≤ 64) (h3 : 1 ≤ p) (h4 : p ≤ 32) (hW : W ≤ 680000) (hsz : sz = p * 68) (h : n = W + 2 * b) (hI : I.length = n) (hB : BytF I W) (j : Nat) (hj : j < b) (ho : (j : Int) * sz = (o : Int)) (ho2 : ((j : Int) + 1) * sz = ((o + sz : Nat) : Int)) (ho3 : o + sz ≤ W) (hfl : fgI I W j = 0) (hxp : nxI I W j ≤ p) (hA : allB I (o + (nxI I W j).toNat * 68) ((p - (nxI I W j).toNat) * 68) 255 = true) :
    WS Try.prog (frameN Try.f28 3) 1 [.c (k1 (k1 (k2 (k1 (k2 (k2 (k2 (k2 (k2 (k2 (kb Try.f28)))))))))))] (slt (ldSl b p n c sz q j)) (mem 0 (ldM I b p W j)) (fun x t' h' => x = .n ∧ Seen 1 t' h' (ldSl b p n c sz q (j + 1)) (ldM I b p W (j + 1))) := by
  have g1 : I[W + 2 * j]? = some (fgI I W j) := getD_get (by omega)
  have g2 : I[W + 2 * j + 1]? = some (nxI I W j) := getD_get (by omega)
  have hf := hB _ _ (by omega) g1
  have hn := hB _ _ (by omega) g2
  have hx1 : (W : Int) + 2 * (j : Int) = ((W + 2 * j : Nat) : Int) := by omega
  have hx2 : (W : Int) + 2 * (j : Int) + 1 = ((W + 2 * j + 1 : Nat) : Int) := by omega
  have hWI : (I.take W).length = W := by rw [List.length_take]; omega
  have hzp : o + sz - o = sz := by omega
  obtain ⟨x, hx⟩ : ∃ x : Nat, nxI I W j = x := ⟨(nxI I W j).toNat, by omega⟩
  rw [hx] at g2 hn
  have hzx : sz - x * 68 = (p - x) * 68 := by omega
  rw [hx] at hA hxp
  rw [Int.toNat_natCast] at hA
  have hst := bkL_put I (W := W) hj (x := x) (u := false) (t := false) (by simp [ldBk, hfl, hx])
  have A1 := fun c q => all_walk (I.take W) (o + x * 68) (sz - x * 68) c 255 q (by omega) (by omega)
  rw [allB_take (by omega), hzx, hA] at A1
  rw [← hzx] at A1
  have A0 := fun c q => all_walk (I.take W) o 0 c 255 q (by omega) (by omega)
  rw [allB_0] at A0
  rw [hfl] at g1
  simp only [ldSl, ldM]
  by_cases hlt : x * 68 < W - o
  · refine WS.pseq rfl ?_
    refine jg ?_
    refine jDT ?_
    refine je ?_
    refine jq ?_
    refine WS.pcondT rfl rfl ?_
    refine WS.pskip rfl ?_
    refine jq ?_
    refine WS.pblock rfl ?_
    refine jq ?_
    refine jg ?_
    iterate 2 refine jo ?_
    refine je ?_
    refine jq ?_
    refine WS.pdraw (tb := tb) (by kernel_rfl) rfl (by kernel_rfl) (by kernel_rfl) ?_
    iterate 3 refine jp ?_
    refine jd ?_
    refine jr ?_
    iterate 2 refine jp ?_
    refine jw ?_
    refine WD.p (tb := tb) rfl rfl rfl rfl (evP_addV rfl rfl rfl (by assumption) (by simp only [lo]; omega) (by simp only [Am.hi]; omega)) ?_
    refine WD.pP (tb := tb) rfl rfl rfl rfl (evP_index rfl rfl rfl rfl rfl rfl (by omega)) (by simp only [Nat.zero_add, Nat.add_zero, Nat.reduceAdd, Nat.reduceMul, Nat.add_assoc, Nat.mul_one]; exact rfl) ?_
    refine WD.r (tb := tb) rfl rfl rfl rfl (evQ_R rfl (evR_load rfl rfl rfl rfl (cellsI_get g1))) ?_
    iterate 3 refine jp ?_
    refine jd ?_
    refine jr ?_
    iterate 2 refine jp ?_
    refine jw ?_
    refine WD.p (tb := tb) rfl rfl rfl rfl (evP_addV rfl rfl rfl (by assumption) (by simp only [lo]; omega) (by simp only [Am.hi]; omega)) ?_
    refine WD.p (tb := tb) rfl rfl rfl rfl (evP_addV rfl rfl rfl (by assumption) (by simp only [lo]; omega) (by simp only [Am.hi]; omega)) ?_
    refine WD.pP (tb := tb) rfl rfl rfl rfl (evP_index rfl rfl rfl rfl rfl rfl (by omega)) (by simp only [Nat.zero_add, Nat.add_zero, Nat.reduceAdd, Nat.reduceMul, Nat.add_assoc, Nat.mul_one]; exact rfl) ?_
    refine WD.r (tb := tb) rfl rfl rfl rfl (evQ_R rfl (evR_load rfl rfl rfl rfl (cellsI_get g2))) ?_
    refine jw ?_
    iterate 2 refine jp ?_
    refine WD.fin rfl ?_
    iterate 2 refine jq ?_
    refine jg ?_
    refine jo ?_
    refine jB false ?_
    iterate 3 refine jo ?_
    refine jDF ?_
    refine jo ?_
    refine je ?_
    refine WS.pcondF rfl rfl ?_
    refine WS.pskip rfl ?_
    refine jq ?_
    refine jg ?_
    iterate 3 refine jo ?_
    refine jB false ?_
    iterate 2 refine jo ?_
    refine jB false ?_
    refine WS.poA (tb := tb) rfl rfl rfl rfl rfl (by simp only [vcells, setL, ll, nl, nz, Nat.reduceAdd, Nat.reduceMul, Int.reduceToNat]; exact rfl) ?_
    refine jn ?_
    refine js ?_
    refine je ?_
    refine jq ?_
    refine jg ?_
    iterate 2 refine jo ?_
    refine jP ?_
    iterate 3 refine jo ?_
    refine WS.po (tb := tb) rfl rfl rfl rfl (step_P (evP_mulV rfl rfl rfl (by assumption) (by simp only [lo]; omega) (by simp only [Am.hi]; omega))) ?_
    refine jo ?_
    refine jW ?_
    refine jo ?_
    refine WS.po (tb := tb) rfl rfl rfl rfl (step_P (evP_mulV rfl rfl rfl (by assumption) (by simp only [lo]; omega) (by simp only [Am.hi]; omega))) ?_
    refine WS.poV (tb := tb) rfl rfl rfl rfl (step_P (evP_sliceC (a := (o)) (b := (o+sz)) rfl rfl rfl rfl rfl rfl (by first | exact .inl ⟨rfl, rfl⟩ | exact .inr ⟨_, _, rfl, rfl⟩ | exact .inr ⟨_, _, rfl, by first | assumption | omega⟩ | exact .inr ⟨_, _, rfl, (Int.toNat_of_nonneg (by omega)).symm⟩) (by first | exact .inl ⟨rfl, rfl⟩ | exact .inr ⟨_, _, rfl, rfl⟩ | exact .inr ⟨_, _, rfl, by first | assumption | omega⟩ | exact .inr ⟨_, _, rfl, (Int.toNat_of_nonneg (by omega)).symm⟩) (by omega) (by omega) (by omega))) (by simp only [hzp, Nat.mul_one, Nat.zero_add]; exact rfl) ?_
    refine jo ?_
    refine je ?_
    refine jq ?_
    refine WS.pblock rfl ?_
    iterate 2 refine jq ?_
    refine jg ?_
    refine jP ?_
    iterate 2 refine jo ?_
    iterate 7 refine jN ?_
    iterate 2 refine jo ?_
    refine je ?_
    refine WS.pcondF rfl rfl ?_
    refine jg ?_
    refine jP ?_
    refine jo ?_
    refine jB true ?_
    iterate 3 refine jo ?_
    refine jW ?_
    refine WS.poV (tb := tb) rfl rfl rfl rfl (step_P (evP_sliceC (a := (x*68)) rfl rfl rfl rfl rfl rfl (by first | exact .inl ⟨rfl, rfl⟩ | exact .inr ⟨_, _, rfl, rfl⟩ | exact .inr ⟨_, _, rfl, by first | assumption | omega⟩ | exact .inr ⟨_, _, rfl, (Int.toNat_of_nonneg (by omega)).symm⟩) (by first | exact .inl ⟨rfl, rfl⟩ | exact .inr ⟨_, _, rfl, rfl⟩ | exact .inr ⟨_, _, rfl, by first | assumption | omega⟩ | exact .inr ⟨_, _, rfl, (Int.toNat_of_nonneg (by omega)).symm⟩) (by omega) (by omega) (by omega))) (by simp only [hzp, Nat.mul_one, Nat.zero_add]; exact rfl) ?_
    refine jc [1] (A1 _ _) (by simp [jOb]) (by simp [jEb, jOb, jMb, mapL_cellsR, okL_cellsR]) ?_; rintro _ _ ⟨rfl, rfl⟩ -; simp only [jPg, jMb, ll, Nat.reduceAdd, Nat.reduceLT, Nat.zero_add, if_true, if_false, Nat.reduceSub, reduceIte, mapL_cellsR, Nat.lt_irrefl, Nat.not_lt_zero, Nat.zero_lt_succ, Nat.lt_add_one]
    refine jB false ?_
    iterate 2 refine jo ?_
    refine je ?_
    refine WS.pcondF rfl rfl ?_
    refine WS.pskip rfl ?_
    refine WS.pdraw (tb := tb) (by kernel_rfl) rfl (by kernel_rfl) (by kernel_rfl) ?_
    iterate 2 refine jp ?_
    refine jd ?_
    refine jr ?_
    refine jp ?_
    refine WD.rA (tb := tb) rfl rfl rfl rfl rfl (by simp only [List.drop_zero, List.drop_succ_cons, List.take_succ_cons, List.take_zero, rwBk]; exact rfl) ?_
    refine WD.pP (tb := tb) rfl rfl rfl rfl (evP_index rfl rfl rfl rfl rfl rfl (by omega)) (by simp only [Nat.zero_add, Nat.add_zero, Nat.reduceAdd, Nat.reduceMul, Nat.add_assoc, Nat.mul_one]; exact rfl) ?_
    refine WD.e0 (tb := tb) rfl rfl rfl rfl rfl (evE_H (evH_store rfl rfl rfl rfl rfl (Nat.zero_le _) rfl (by simp [vcells]) (by simp only [Bk_len, vcells, List.length_cons, List.length_nil, cellsI_len, cellsB_len, List.length_set, List.length_replicate, List.length_append, List.length_map, List.length_take, List.length_drop, bkL_len]; omega))) ?_; rw [upd_mem _ rfl]; simp only [vcells, List.set_cons_zero, List.set_cons_succ, hst]; (try simp only [setL, List.set_cons_zero, List.set_cons_succ])
    refine WD.fin rfl ?_
    refine jg ?_
    refine jW ?_
    refine jo ?_
    refine je ?_
    refine WS.nil ?_
    exact ⟨rfl, (jSn [0,1,2,3] (by simp [jVb, jOb, jMb, mapL_cellsR, okL_cellsR, ldSl, ldM]) (by simp only [jSl, jOb, jMb, Nat.reduceAdd, Nat.reduceLT, ldSl, ldM] <;> exact jClo))⟩
  · refine WS.pseq rfl ?_
    refine jg ?_
    refine jDT ?_
    refine je ?_
    refine jq ?_
    refine WS.pcondT rfl rfl ?_
    refine WS.pskip rfl ?_
    refine jq ?_
    refine WS.pblock rfl ?_
    refine jq ?_
    refine jg ?_
    iterate 2 refine jo ?_
    refine je ?_
    refine jq ?_
    refine WS.pdraw (tb := tb) (by kernel_rfl) rfl (by kernel_rfl) (by kernel_rfl) ?_
    iterate 3 refine jp ?_
    refine jd ?_
    refine jr ?_
    iterate 2 refine jp ?_
    refine jw ?_
    refine WD.p (tb := tb) rfl rfl rfl rfl (evP_addV rfl rfl rfl (by assumption) (by simp only [lo]; omega) (by simp only [Am.hi]; omega)) ?_
    refine WD.pP (tb := tb) rfl rfl rfl rfl (evP_index rfl rfl rfl rfl rfl rfl (by omega)) (by simp only [Nat.zero_add, Nat.add_zero, Nat.reduceAdd, Nat.reduceMul, Nat.add_assoc, Nat.mul_one]; exact rfl) ?_
    refine WD.r (tb := tb) rfl rfl rfl rfl (evQ_R rfl (evR_load rfl rfl rfl rfl (cellsI_get g1))) ?_
    iterate 3 refine jp ?_
    refine jd ?_
    refine jr ?_
    iterate 2 refine jp ?_
    refine jw ?_
    refine WD.p (tb := tb) rfl rfl rfl rfl (evP_addV rfl rfl rfl (by assumption) (by simp only [lo]; omega) (by simp only [Am.hi]; omega)) ?_
    refine WD.p (tb := tb) rfl rfl rfl rfl (evP_addV rfl rfl rfl (by assumption) (by simp only [lo]; omega) (by simp only [Am.hi]; omega)) ?_
    refine WD.pP (tb := tb) rfl rfl rfl rfl (evP_index rfl rfl rfl rfl rfl rfl (by omega)) (by simp only [Nat.zero_add, Nat.add_zero, Nat.reduceAdd, Nat.reduceMul, Nat.add_assoc, Nat.mul_one]; exact rfl) ?_
    refine WD.r (tb := tb) rfl rfl rfl rfl (evQ_R rfl (evR_load rfl rfl rfl rfl (cellsI_get g2))) ?_
    refine jw ?_
    iterate 2 refine jp ?_
    refine WD.fin rfl ?_
    iterate 2 refine jq ?_
    refine jg ?_
    refine jo ?_
    refine jB false ?_
    iterate 3 refine jo ?_
    refine jDF ?_
    refine jo ?_
    refine je ?_
    refine WS.pcondF rfl rfl ?_
    refine WS.pskip rfl ?_
    refine jq ?_
    refine jg ?_
    iterate 3 refine jo ?_
    refine jB false ?_
    iterate 2 refine jo ?_
    refine jB false ?_
    refine WS.poA (tb := tb) rfl rfl rfl rfl rfl (by simp only [vcells, setL, ll, nl, nz, Nat.reduceAdd, Nat.reduceMul, Int.reduceToNat]; exact rfl) ?_
    refine jn ?_
    refine js ?_
    refine je ?_
    refine jq ?_
    refine jg ?_
    iterate 2 refine jo ?_
    refine jP ?_
    iterate 3 refine jo ?_
    refine WS.po (tb := tb) rfl rfl rfl rfl (step_P (evP_mulV rfl rfl rfl (by assumption) (by simp only [lo]; omega) (by simp only [Am.hi]; omega))) ?_
    refine jo ?_
    refine jW ?_
    refine jo ?_
    refine WS.po (tb := tb) rfl rfl rfl rfl (step_P (evP_mulV rfl rfl rfl (by assumption) (by simp only [lo]; omega) (by simp only [Am.hi]; omega))) ?_
    refine WS.poV (tb := tb) rfl rfl rfl rfl (step_P (evP_sliceC (a := (o)) (b := (o+sz)) rfl rfl rfl rfl rfl rfl (by first | exact .inl ⟨rfl, rfl⟩ | exact .inr ⟨_, _, rfl, rfl⟩ | exact .inr ⟨_, _, rfl, by first | assumption | omega⟩ | exact .inr ⟨_, _, rfl, (Int.toNat_of_nonneg (by omega)).symm⟩) (by first | exact .inl ⟨rfl, rfl⟩ | exact .inr ⟨_, _, rfl, rfl⟩ | exact .inr ⟨_, _, rfl, by first | assumption | omega⟩ | exact .inr ⟨_, _, rfl, (Int.toNat_of_nonneg (by omega)).symm⟩) (by omega) (by omega) (by omega))) (by simp only [hzp, Nat.mul_one, Nat.zero_add]; exact rfl) ?_
    refine jo ?_
    refine je ?_
    refine jq ?_
    refine WS.pblock rfl ?_
    iterate 2 refine jq ?_
    refine jg ?_
    refine jP ?_
    iterate 2 refine jo ?_
    iterate 7 refine jN ?_
    iterate 2 refine jo ?_
    refine je ?_
    refine WS.pcondF rfl rfl ?_
    refine jg ?_
    refine jP ?_
    refine jo ?_
    refine jB true ?_
    iterate 3 refine jo ?_
    refine jW ?_
    refine WS.poV (tb := tb) rfl rfl rfl rfl (step_P (evP_sliceCE (a := (x*68)) rfl rfl rfl rfl rfl rfl (by first | exact .inl ⟨rfl, rfl⟩ | exact .inr ⟨_, _, rfl, rfl⟩ | exact .inr ⟨_, _, rfl, by first | assumption | omega⟩ | exact .inr ⟨_, _, rfl, (Int.toNat_of_nonneg (by omega)).symm⟩) (by first | exact .inl ⟨rfl, rfl⟩ | exact .inr ⟨_, _, rfl, rfl⟩ | exact .inr ⟨_, _, rfl, by first | assumption | omega⟩ | exact .inr ⟨_, _, rfl, (Int.toNat_of_nonneg (by omega)).symm⟩) (by omega) (by omega) (by omega))) rfl ?_
    refine jc [1] (A0 _ _) (by simp [jOb]) (by simp [jEb, jOb, jMb, mapL_cellsR, okL_cellsR]) ?_; rintro _ _ ⟨rfl, rfl⟩ -; simp only [jPg, jMb, ll, Nat.reduceAdd, Nat.reduceLT, Nat.zero_add, if_true, if_false, Nat.reduceSub, reduceIte, mapL_cellsR, Nat.lt_irrefl, Nat.not_lt_zero, Nat.zero_lt_succ, Nat.lt_add_one]
    refine jB false ?_
    iterate 2 refine jo ?_
    refine je ?_
    refine WS.pcondF rfl rfl ?_
    refine WS.pskip rfl ?_
    refine WS.pdraw (tb := tb) (by kernel_rfl) rfl (by kernel_rfl) (by kernel_rfl) ?_
    iterate 2 refine jp ?_
    refine jd ?_
    refine jr ?_
    refine jp ?_
    refine WD.rA (tb := tb) rfl rfl rfl rfl rfl (by simp only [List.drop_zero, List.drop_succ_cons, List.take_succ_cons, List.take_zero, rwBk]; exact rfl) ?_
    refine WD.pP (tb := tb) rfl rfl rfl rfl (evP_index rfl rfl rfl rfl rfl rfl (by omega)) (by simp only [Nat.zero_add, Nat.add_zero, Nat.reduceAdd, Nat.reduceMul, Nat.add_assoc, Nat.mul_one]; exact rfl) ?_
    refine WD.e0 (tb := tb) rfl rfl rfl rfl rfl (evE_H (evH_store rfl rfl rfl rfl rfl (Nat.zero_le _) rfl (by simp [vcells]) (by simp only [Bk_len, vcells, List.length_cons, List.length_nil, cellsI_len, cellsB_len, List.length_set, List.length_replicate, List.length_append, List.length_map, List.length_take, List.length_drop, bkL_len]; omega))) ?_; rw [upd_mem _ rfl]; simp only [vcells, List.set_cons_zero, List.set_cons_succ, hst]; (try simp only [setL, List.set_cons_zero, List.set_cons_succ])
    refine WD.fin rfl ?_
    refine jg ?_
    refine jW ?_
    refine jo ?_
    refine je ?_
    refine WS.nil ?_
    exact ⟨rfl, (jSn [0,1,2,3] (by simp [jVb, jOb, jMb, mapL_cellsR, okL_cellsR, ldSl, ldM]) (by simp only [jSl, jOb, jMb, Nat.reduceAdd, Nat.reduceLT, ldSl, ldM] <;> exact jClo))⟩
theorem ld_no0 (b p W n c sz o : Nat) (q : Bool) (I : List Int) (h2 : b ≤ 64) (h3 : 1 ≤ p) (h4 : p ≤ 32) (hW : W ≤ 680000) (hsz : sz = p * 68) (h : n = W + 2 * b) (hI : I.length = n) (hB : BytF I W) (j : Nat) (hj : j < b) (ho : (j : Int) * sz = (o : Int)) (ho2 : ((j : Int) + 1) * sz = ((o + sz : Nat) : Int)) (ho3 : o + sz ≤ W) (hfl : fgI I W j = 0) (hxp : nxI I W j ≤ p) (hA : allB I (o + (nxI I W j).toNat * 68) ((p - (nxI I W j).toNat) * 68) 255 = false) :
    WS Try.prog (frameN Try.f28 3) 1 [.c (k1 (k1 (k2 (k1 (k2 (k2 (k2 (k2 (k2 (k2 (kb Try.f28)))))))))))] (slt (ldSl b p n c sz q j)) (mem 0 (ldM I b p W j)) (LdQ I) := by
  have g1 : I[W + 2 * j]? = some (fgI I W j) := getD_get (by omega)
  have g2 : I[W + 2 * j + 1]? = some (nxI I W j) := getD_get (by omega)
  have hf := hB _ _ (by omega) g1
  have hn := hB _ _ (by omega) g2
  have hx1 : (W : Int) + 2 * (j : Int) = ((W + 2 * j : Nat) : Int) := by omega
  have hx2 : (W : Int) + 2 * (j : Int) + 1 = ((W + 2 * j + 1 : Nat) : Int) := by omega
  have hWI : (I.take W).length = W := by rw [List.length_take]; omega
  have hzp : o + sz - o = sz := by omega
  obtain ⟨x, hx⟩ : ∃ x : Nat, nxI I W j = x := ⟨(nxI I W j).toNat, by omega⟩
  rw [hx] at g2 hn
  have hzx : sz - x * 68 = (p - x) * 68 := by omega
  rw [hx] at hA hxp
  rw [Int.toNat_natCast] at hA
  have A1 := fun c q => all_walk (I.take W) (o + x * 68) (sz - x * 68) c 255 q (by omega) (by omega)
  rw [allB_take (by omega), hzx, hA] at A1
  rw [← hzx] at A1
  have hlt : x * 68 < W - o := Decidable.by_contra fun hn => by
    have e : (p - x) * 68 = 0 := by omega
    rw [e, allB_0] at hA; cases hA
  rw [hfl] at g1
  simp only [ldSl, ldM]
  refine jq ?_
  refine jg ?_
  refine jDT ?_
  refine je ?_
  refine jq ?_
  refine WS.pcondT rfl rfl ?_
  refine WS.pskip rfl ?_
  refine jq ?_
  refine WS.pblock rfl ?_
  refine jq ?_
  refine jg ?_
  iterate 2 refine jo ?_
  refine je ?_
  refine jq ?_
  refine WS.pdraw (tb := tb) (by kernel_rfl) rfl (by kernel_rfl) (by kernel_rfl) ?_
  iterate 3 refine jp ?_
  refine jd ?_
  refine jr ?_
  iterate 2 refine jp ?_
  refine jw ?_
  refine WD.p (tb := tb) rfl rfl rfl rfl (evP_addV rfl rfl rfl (by assumption) (by simp only [lo]; omega) (by simp only [Am.hi]; omega)) ?_
  refine WD.pP (tb := tb) rfl rfl rfl rfl (evP_index rfl rfl rfl rfl rfl rfl (by omega)) (by simp only [Nat.zero_add, Nat.add_zero, Nat.reduceAdd, Nat.reduceMul, Nat.add_assoc, Nat.mul_one]; exact rfl) ?_
  refine WD.r (tb := tb) rfl rfl rfl rfl (evQ_R rfl (evR_load rfl rfl rfl rfl (cellsI_get g1))) ?_
  iterate 3 refine jp ?_
  refine jd ?_
  refine jr ?_
  iterate 2 refine jp ?_
  refine jw ?_
  refine WD.p (tb := tb) rfl rfl rfl rfl (evP_addV rfl rfl rfl (by assumption) (by simp only [lo]; omega) (by simp only [Am.hi]; omega)) ?_
  refine WD.p (tb := tb) rfl rfl rfl rfl (evP_addV rfl rfl rfl (by assumption) (by simp only [lo]; omega) (by simp only [Am.hi]; omega)) ?_
  refine WD.pP (tb := tb) rfl rfl rfl rfl (evP_index rfl rfl rfl rfl rfl rfl (by omega)) (by simp only [Nat.zero_add, Nat.add_zero, Nat.reduceAdd, Nat.reduceMul, Nat.add_assoc, Nat.mul_one]; exact rfl) ?_
  refine WD.r (tb := tb) rfl rfl rfl rfl (evQ_R rfl (evR_load rfl rfl rfl rfl (cellsI_get g2))) ?_
  refine jw ?_
  iterate 2 refine jp ?_
  refine WD.fin rfl ?_
  iterate 2 refine jq ?_
  refine jg ?_
  refine jo ?_
  refine jB false ?_
  iterate 3 refine jo ?_
  refine jDF ?_
  refine jo ?_
  refine je ?_
  refine WS.pcondF rfl rfl ?_
  refine WS.pskip rfl ?_
  refine jq ?_
  refine jg ?_
  iterate 3 refine jo ?_
  refine jB false ?_
  iterate 2 refine jo ?_
  refine jB false ?_
  refine WS.poA (tb := tb) rfl rfl rfl rfl rfl (by simp only [vcells, setL, ll, nl, nz, Nat.reduceAdd, Nat.reduceMul, Int.reduceToNat]; exact rfl) ?_
  refine jn ?_
  refine js ?_
  refine je ?_
  refine jq ?_
  refine jg ?_
  iterate 2 refine jo ?_
  refine jP ?_
  iterate 3 refine jo ?_
  refine WS.po (tb := tb) rfl rfl rfl rfl (step_P (evP_mulV rfl rfl rfl (by assumption) (by simp only [lo]; omega) (by simp only [Am.hi]; omega))) ?_
  refine jo ?_
  refine jW ?_
  refine jo ?_
  refine WS.po (tb := tb) rfl rfl rfl rfl (step_P (evP_mulV rfl rfl rfl (by assumption) (by simp only [lo]; omega) (by simp only [Am.hi]; omega))) ?_
  refine WS.poV (tb := tb) rfl rfl rfl rfl (step_P (evP_sliceC (a := (o)) (b := (o+sz)) rfl rfl rfl rfl rfl rfl (by first | exact .inl ⟨rfl, rfl⟩ | exact .inr ⟨_, _, rfl, rfl⟩ | exact .inr ⟨_, _, rfl, by first | assumption | omega⟩ | exact .inr ⟨_, _, rfl, (Int.toNat_of_nonneg (by omega)).symm⟩) (by first | exact .inl ⟨rfl, rfl⟩ | exact .inr ⟨_, _, rfl, rfl⟩ | exact .inr ⟨_, _, rfl, by first | assumption | omega⟩ | exact .inr ⟨_, _, rfl, (Int.toNat_of_nonneg (by omega)).symm⟩) (by omega) (by omega) (by omega))) (by simp only [hzp, Nat.mul_one, Nat.zero_add]; exact rfl) ?_
  refine jo ?_
  refine je ?_
  refine jq ?_
  refine WS.pblock rfl ?_
  iterate 2 refine jq ?_
  refine jg ?_
  refine jP ?_
  iterate 2 refine jo ?_
  iterate 7 refine jN ?_
  iterate 2 refine jo ?_
  refine je ?_
  refine WS.pcondF rfl rfl ?_
  refine jg ?_
  refine jP ?_
  refine jo ?_
  refine jB true ?_
  iterate 3 refine jo ?_
  refine jW ?_
  refine WS.poV (tb := tb) rfl rfl rfl rfl (step_P (evP_sliceC (a := (x*68)) rfl rfl rfl rfl rfl rfl (by first | exact .inl ⟨rfl, rfl⟩ | exact .inr ⟨_, _, rfl, rfl⟩ | exact .inr ⟨_, _, rfl, by first | assumption | omega⟩ | exact .inr ⟨_, _, rfl, (Int.toNat_of_nonneg (by omega)).symm⟩) (by first | exact .inl ⟨rfl, rfl⟩ | exact .inr ⟨_, _, rfl, rfl⟩ | exact .inr ⟨_, _, rfl, by first | assumption | omega⟩ | exact .inr ⟨_, _, rfl, (Int.toNat_of_nonneg (by omega)).symm⟩) (by omega) (by omega) (by omega))) (by simp only [hzp, Nat.mul_one, Nat.zero_add]; exact rfl) ?_
  refine jc [1] (A1 _ _) (by simp [jOb]) (by simp [jEb, jOb, jMb, mapL_cellsR, okL_cellsR]) ?_; rintro _ _ ⟨rfl, rfl⟩ -; simp only [jPg, jMb, ll, Nat.reduceAdd, Nat.reduceLT, Nat.zero_add, if_true, if_false, Nat.reduceSub, reduceIte, mapL_cellsR, Nat.lt_irrefl, Nat.not_lt_zero, Nat.zero_lt_succ, Nat.lt_add_one]
  refine jB true ?_
  iterate 2 refine jo ?_
  refine je ?_
  refine WS.pcondT rfl rfl ?_
  refine jq ?_
  refine jg ?_
  iterate 2 refine jo ?_
  refine je ?_
  refine WS.pret rfl ?_
  exact ⟨rfl, _, rfl, _, rfl, [0], [some ⟨cellsR (rwI .u8) I, 5, false⟩], .tup [.p none, .i .i64 11], ⟨rfl, rfl, (by simp [jVb, jOb, jMb, mapL_cellsR, okL_cellsR, ldM]), rfl⟩, rfl, by simp [okV, okL], rfl, rfl⟩
theorem ld_ok1 (b p W n c sz o : Nat) (q : Bool) (I : List Int) (h2 : b ≤ 64) (h3 : 1 ≤ p) (h4 : p ≤ 32) (hW : W ≤ 680000) (hsz : sz = p * 68) (h : n = W + 2 * b) (hI : I.length = n) (hB : BytF I W) (j : Nat) (hj : j < b) (ho : (j : Int) * sz = (o : Int)) (ho2 : ((j : Int) + 1) * sz = ((o + sz : Nat) : Int)) (ho3 : o + sz ≤ W) (hfl : fgI I W j = 1) (hxp : nxI I W j ≤ p) (hA : allB I (o + (nxI I W j).toNat * 68) ((p - (nxI I W j).toNat) * 68) 255 = true) :
    WS Try.prog (frameN Try.f28 3) 1 [.c (k1 (k1 (k2 (k1 (k2 (k2 (k2 (k2 (k2 (k2 (kb Try.f28)))))))))))] (slt (ldSl b p n c sz q j)) (mem 0 (ldM I b p W j)) (fun x t' h' => x = .n ∧ Seen 1 t' h' (ldSl b p n c sz q (j + 1)) (ldM I b p W (j + 1))) := by
  have g1 : I[W + 2 * j]? = some (fgI I W j) := getD_get (by omega)
  have g2 : I[W + 2 * j + 1]? = some (nxI I W j) := getD_get (by omega)
  have hf := hB _ _ (by omega) g1
  have hn := hB _ _ (by omega) g2
  have hx1 : (W : Int) + 2 * (j : Int) = ((W + 2 * j : Nat) : Int) := by omega
  have hx2 : (W : Int) + 2 * (j : Int) + 1 = ((W + 2 * j + 1 : Nat) : Int) := by omega
  have hWI : (I.take W).length = W := by rw [List.length_take]; omega
  have hzp : o + sz - o = sz := by omega
  obtain ⟨x, hx⟩ : ∃ x : Nat, nxI I W j = x := ⟨(nxI I W j).toNat, by omega⟩
  rw [hx] at g2 hn
  have hzx : sz - x * 68 = (p - x) * 68 := by omega
  rw [hx] at hA hxp
  rw [Int.toNat_natCast] at hA
  have hst := bkL_put I (W := W) hj (x := x) (u := true) (t := false) (by simp [ldBk, hfl, hx])
  have A1 := fun c q => all_walk (I.take W) (o + x * 68) (sz - x * 68) c 255 q (by omega) (by omega)
  rw [allB_take (by omega), hzx, hA] at A1
  rw [← hzx] at A1
  have A0 := fun c q => all_walk (I.take W) o 0 c 255 q (by omega) (by omega)
  rw [allB_0] at A0
  rw [hfl] at g1
  simp only [ldSl, ldM]
  by_cases hlt : x * 68 < W - o
  · refine WS.pseq rfl ?_
    refine jg ?_
    refine jDT ?_
    refine je ?_
    refine jq ?_
    refine WS.pcondT rfl rfl ?_
    refine WS.pskip rfl ?_
    refine jq ?_
    refine WS.pblock rfl ?_
    refine jq ?_
    refine jg ?_
    iterate 2 refine jo ?_
    refine je ?_
    refine jq ?_
    refine WS.pdraw (tb := tb) (by kernel_rfl) rfl (by kernel_rfl) (by kernel_rfl) ?_
    iterate 3 refine jp ?_
    refine jd ?_
    refine jr ?_
    iterate 2 refine jp ?_
    refine jw ?_
    refine WD.p (tb := tb) rfl rfl rfl rfl (evP_addV rfl rfl rfl (by assumption) (by simp only [lo]; omega) (by simp only [Am.hi]; omega)) ?_
    refine WD.pP (tb := tb) rfl rfl rfl rfl (evP_index rfl rfl rfl rfl rfl rfl (by omega)) (by simp only [Nat.zero_add, Nat.add_zero, Nat.reduceAdd, Nat.reduceMul, Nat.add_assoc, Nat.mul_one]; exact rfl) ?_
    refine WD.r (tb := tb) rfl rfl rfl rfl (evQ_R rfl (evR_load rfl rfl rfl rfl (cellsI_get g1))) ?_
    iterate 3 refine jp ?_
    refine jd ?_
    refine jr ?_
    iterate 2 refine jp ?_
    refine jw ?_
    refine WD.p (tb := tb) rfl rfl rfl rfl (evP_addV rfl rfl rfl (by assumption) (by simp only [lo]; omega) (by simp only [Am.hi]; omega)) ?_
    refine WD.p (tb := tb) rfl rfl rfl rfl (evP_addV rfl rfl rfl (by assumption) (by simp only [lo]; omega) (by simp only [Am.hi]; omega)) ?_
    refine WD.pP (tb := tb) rfl rfl rfl rfl (evP_index rfl rfl rfl rfl rfl rfl (by omega)) (by simp only [Nat.zero_add, Nat.add_zero, Nat.reduceAdd, Nat.reduceMul, Nat.add_assoc, Nat.mul_one]; exact rfl) ?_
    refine WD.r (tb := tb) rfl rfl rfl rfl (evQ_R rfl (evR_load rfl rfl rfl rfl (cellsI_get g2))) ?_
    refine jw ?_
    iterate 2 refine jp ?_
    refine WD.fin rfl ?_
    iterate 2 refine jq ?_
    refine jg ?_
    refine jo ?_
    refine jB false ?_
    iterate 3 refine jo ?_
    refine jDF ?_
    refine jo ?_
    refine je ?_
    refine WS.pcondF rfl rfl ?_
    refine WS.pskip rfl ?_
    refine jq ?_
    refine jg ?_
    iterate 3 refine jo ?_
    refine jB true ?_
    iterate 2 refine jo ?_
    refine jB false ?_
    refine WS.poA (tb := tb) rfl rfl rfl rfl rfl (by simp only [vcells, setL, ll, nl, nz, Nat.reduceAdd, Nat.reduceMul, Int.reduceToNat]; exact rfl) ?_
    refine jn ?_
    refine js ?_
    refine je ?_
    refine jq ?_
    refine jg ?_
    iterate 2 refine jo ?_
    refine jP ?_
    iterate 3 refine jo ?_
    refine WS.po (tb := tb) rfl rfl rfl rfl (step_P (evP_mulV rfl rfl rfl (by assumption) (by simp only [lo]; omega) (by simp only [Am.hi]; omega))) ?_
    refine jo ?_
    refine jW ?_
    refine jo ?_
    refine WS.po (tb := tb) rfl rfl rfl rfl (step_P (evP_mulV rfl rfl rfl (by assumption) (by simp only [lo]; omega) (by simp only [Am.hi]; omega))) ?_
    refine WS.poV (tb := tb) rfl rfl rfl rfl (step_P (evP_sliceC (a := (o)) (b := (o+sz)) rfl rfl rfl rfl rfl rfl (by first | exact .inl ⟨rfl, rfl⟩ | exact .inr ⟨_, _, rfl, rfl⟩ | exact .inr ⟨_, _, rfl, by first | assumption | omega⟩ | exact .inr ⟨_, _, rfl, (Int.toNat_of_nonneg (by omega)).symm⟩) (by first | exact .inl ⟨rfl, rfl⟩ | exact .inr ⟨_, _, rfl, rfl⟩ | exact .inr ⟨_, _, rfl, by first | assumption | omega⟩ | exact .inr ⟨_, _, rfl, (Int.toNat_of_nonneg (by omega)).symm⟩) (by omega) (by omega) (by omega))) (by simp only [hzp, Nat.mul_one, Nat.zero_add]; exact rfl) ?_
    refine jo ?_
    refine je ?_
    refine jq ?_
    refine WS.pblock rfl ?_
    iterate 2 refine jq ?_
    refine jg ?_
    refine jP ?_
    iterate 2 refine jo ?_
    iterate 7 refine jN ?_
    iterate 2 refine jo ?_
    refine je ?_
    refine WS.pcondF rfl rfl ?_
    refine jg ?_
    refine jP ?_
    refine jo ?_
    refine jB true ?_
    iterate 3 refine jo ?_
    refine jW ?_
    refine WS.poV (tb := tb) rfl rfl rfl rfl (step_P (evP_sliceC (a := (x*68)) rfl rfl rfl rfl rfl rfl (by first | exact .inl ⟨rfl, rfl⟩ | exact .inr ⟨_, _, rfl, rfl⟩ | exact .inr ⟨_, _, rfl, by first | assumption | omega⟩ | exact .inr ⟨_, _, rfl, (Int.toNat_of_nonneg (by omega)).symm⟩) (by first | exact .inl ⟨rfl, rfl⟩ | exact .inr ⟨_, _, rfl, rfl⟩ | exact .inr ⟨_, _, rfl, by first | assumption | omega⟩ | exact .inr ⟨_, _, rfl, (Int.toNat_of_nonneg (by omega)).symm⟩) (by omega) (by omega) (by omega))) (by simp only [hzp, Nat.mul_one, Nat.zero_add]; exact rfl) ?_
    refine jc [1] (A1 _ _) (by simp [jOb]) (by simp [jEb, jOb, jMb, mapL_cellsR, okL_cellsR]) ?_; rintro _ _ ⟨rfl, rfl⟩ -; simp only [jPg, jMb, ll, Nat.reduceAdd, Nat.reduceLT, Nat.zero_add, if_true, if_false, Nat.reduceSub, reduceIte, mapL_cellsR, Nat.lt_irrefl, Nat.not_lt_zero, Nat.zero_lt_succ, Nat.lt_add_one]
    refine jB false ?_
    iterate 2 refine jo ?_
    refine je ?_
    refine WS.pcondF rfl rfl ?_
    refine WS.pskip rfl ?_
    refine WS.pdraw (tb := tb) (by kernel_rfl) rfl (by kernel_rfl) (by kernel_rfl) ?_
    iterate 2 refine jp ?_
    refine jd ?_
    refine jr ?_
    refine jp ?_
    refine WD.rA (tb := tb) rfl rfl rfl rfl rfl (by simp only [List.drop_zero, List.drop_succ_cons, List.take_succ_cons, List.take_zero, rwBk]; exact rfl) ?_
    refine WD.pP (tb := tb) rfl rfl rfl rfl (evP_index rfl rfl rfl rfl rfl rfl (by omega)) (by simp only [Nat.zero_add, Nat.add_zero, Nat.reduceAdd, Nat.reduceMul, Nat.add_assoc, Nat.mul_one]; exact rfl) ?_
    refine WD.e0 (tb := tb) rfl rfl rfl rfl rfl (evE_H (evH_store rfl rfl rfl rfl rfl (Nat.zero_le _) rfl (by simp [vcells]) (by simp only [Bk_len, vcells, List.length_cons, List.length_nil, cellsI_len, cellsB_len, List.length_set, List.length_replicate, List.length_append, List.length_map, List.length_take, List.length_drop, bkL_len]; omega))) ?_; rw [upd_mem _ rfl]; simp only [vcells, List.set_cons_zero, List.set_cons_succ, hst]; (try simp only [setL, List.set_cons_zero, List.set_cons_succ])
    refine WD.fin rfl ?_
    refine jg ?_
    refine jW ?_
    refine jo ?_
    refine je ?_
    refine WS.nil ?_
    exact ⟨rfl, (jSn [0,1,2,3] (by simp [jVb, jOb, jMb, mapL_cellsR, okL_cellsR, ldSl, ldM]) (by simp only [jSl, jOb, jMb, Nat.reduceAdd, Nat.reduceLT, ldSl, ldM] <;> exact jClo))⟩
  · refine WS.pseq rfl ?_
    refine jg ?_
    refine jDT ?_
    refine je ?_
    refine jq ?_
    refine WS.pcondT rfl rfl ?_
    refine WS.pskip rfl ?_
    refine jq ?_
    refine WS.pblock rfl ?_
    refine jq ?_
    refine jg ?_
    iterate 2 refine jo ?_
    refine je ?_
    refine jq ?_
    refine WS.pdraw (tb := tb) (by kernel_rfl) rfl (by kernel_rfl) (by kernel_rfl) ?_
    iterate 3 refine jp ?_
    refine jd ?_
    refine jr ?_
    iterate 2 refine jp ?_
    refine jw ?_
    refine WD.p (tb := tb) rfl rfl rfl rfl (evP_addV rfl rfl rfl (by assumption) (by simp only [lo]; omega) (by simp only [Am.hi]; omega)) ?_
    refine WD.pP (tb := tb) rfl rfl rfl rfl (evP_index rfl rfl rfl rfl rfl rfl (by omega)) (by simp only [Nat.zero_add, Nat.add_zero, Nat.reduceAdd, Nat.reduceMul, Nat.add_assoc, Nat.mul_one]; exact rfl) ?_
    refine WD.r (tb := tb) rfl rfl rfl rfl (evQ_R rfl (evR_load rfl rfl rfl rfl (cellsI_get g1))) ?_
    iterate 3 refine jp ?_
    refine jd ?_
    refine jr ?_
    iterate 2 refine jp ?_
    refine jw ?_
    refine WD.p (tb := tb) rfl rfl rfl rfl (evP_addV rfl rfl rfl (by assumption) (by simp only [lo]; omega) (by simp only [Am.hi]; omega)) ?_
    refine WD.p (tb := tb) rfl rfl rfl rfl (evP_addV rfl rfl rfl (by assumption) (by simp only [lo]; omega) (by simp only [Am.hi]; omega)) ?_
    refine WD.pP (tb := tb) rfl rfl rfl rfl (evP_index rfl rfl rfl rfl rfl rfl (by omega)) (by simp only [Nat.zero_add, Nat.add_zero, Nat.reduceAdd, Nat.reduceMul, Nat.add_assoc, Nat.mul_one]; exact rfl) ?_
    refine WD.r (tb := tb) rfl rfl rfl rfl (evQ_R rfl (evR_load rfl rfl rfl rfl (cellsI_get g2))) ?_
    refine jw ?_
    iterate 2 refine jp ?_
    refine WD.fin rfl ?_
    iterate 2 refine jq ?_
    refine jg ?_
    refine jo ?_
    refine jB false ?_
    iterate 3 refine jo ?_
    refine jDF ?_
    refine jo ?_
    refine je ?_
    refine WS.pcondF rfl rfl ?_
    refine WS.pskip rfl ?_
    refine jq ?_
    refine jg ?_
    iterate 3 refine jo ?_
    refine jB true ?_
    iterate 2 refine jo ?_
    refine jB false ?_
    refine WS.poA (tb := tb) rfl rfl rfl rfl rfl (by simp only [vcells, setL, ll, nl, nz, Nat.reduceAdd, Nat.reduceMul, Int.reduceToNat]; exact rfl) ?_
    refine jn ?_
    refine js ?_
    refine je ?_
    refine jq ?_
    refine jg ?_
    iterate 2 refine jo ?_
    refine jP ?_
    iterate 3 refine jo ?_
    refine WS.po (tb := tb) rfl rfl rfl rfl (step_P (evP_mulV rfl rfl rfl (by assumption) (by simp only [lo]; omega) (by simp only [Am.hi]; omega))) ?_
    refine jo ?_
    refine jW ?_
    refine jo ?_
    refine WS.po (tb := tb) rfl rfl rfl rfl (step_P (evP_mulV rfl rfl rfl (by assumption) (by simp only [lo]; omega) (by simp only [Am.hi]; omega))) ?_
    refine WS.poV (tb := tb) rfl rfl rfl rfl (step_P (evP_sliceC (a := (o)) (b := (o+sz)) rfl rfl rfl rfl rfl rfl (by first | exact .inl ⟨rfl, rfl⟩ | exact .inr ⟨_, _, rfl, rfl⟩ | exact .inr ⟨_, _, rfl, by first | assumption | omega⟩ | exact .inr ⟨_, _, rfl, (Int.toNat_of_nonneg (by omega)).symm⟩) (by first | exact .inl ⟨rfl, rfl⟩ | exact .inr ⟨_, _, rfl, rfl⟩ | exact .inr ⟨_, _, rfl, by first | assumption | omega⟩ | exact .inr ⟨_, _, rfl, (Int.toNat_of_nonneg (by omega)).symm⟩) (by omega) (by omega) (by omega))) (by simp only [hzp, Nat.mul_one, Nat.zero_add]; exact rfl) ?_
    refine jo ?_
    refine je ?_
    refine jq ?_
    refine WS.pblock rfl ?_
    iterate 2 refine jq ?_
    refine jg ?_
    refine jP ?_
    iterate 2 refine jo ?_
    iterate 7 refine jN ?_
    iterate 2 refine jo ?_
    refine je ?_
    refine WS.pcondF rfl rfl ?_
    refine jg ?_
    refine jP ?_
    refine jo ?_
    refine jB true ?_
    iterate 3 refine jo ?_
    refine jW ?_
    refine WS.poV (tb := tb) rfl rfl rfl rfl (step_P (evP_sliceCE (a := (x*68)) rfl rfl rfl rfl rfl rfl (by first | exact .inl ⟨rfl, rfl⟩ | exact .inr ⟨_, _, rfl, rfl⟩ | exact .inr ⟨_, _, rfl, by first | assumption | omega⟩ | exact .inr ⟨_, _, rfl, (Int.toNat_of_nonneg (by omega)).symm⟩) (by first | exact .inl ⟨rfl, rfl⟩ | exact .inr ⟨_, _, rfl, rfl⟩ | exact .inr ⟨_, _, rfl, by first | assumption | omega⟩ | exact .inr ⟨_, _, rfl, (Int.toNat_of_nonneg (by omega)).symm⟩) (by omega) (by omega) (by omega))) rfl ?_
    refine jc [1] (A0 _ _) (by simp [jOb]) (by simp [jEb, jOb, jMb, mapL_cellsR, okL_cellsR]) ?_; rintro _ _ ⟨rfl, rfl⟩ -; simp only [jPg, jMb, ll, Nat.reduceAdd, Nat.reduceLT, Nat.zero_add, if_true, if_false, Nat.reduceSub, reduceIte, mapL_cellsR, Nat.lt_irrefl, Nat.not_lt_zero, Nat.zero_lt_succ, Nat.lt_add_one]
    refine jB false ?_
    iterate 2 refine jo ?_
    refine je ?_
    refine WS.pcondF rfl rfl ?_
    refine WS.pskip rfl ?_
    refine WS.pdraw (tb := tb) (by kernel_rfl) rfl (by kernel_rfl) (by kernel_rfl) ?_
    iterate 2 refine jp ?_
    refine jd ?_
    refine jr ?_
    refine jp ?_
    refine WD.rA (tb := tb) rfl rfl rfl rfl rfl (by simp only [List.drop_zero, List.drop_succ_cons, List.take_succ_cons, List.take_zero, rwBk]; exact rfl) ?_
    refine WD.pP (tb := tb) rfl rfl rfl rfl (evP_index rfl rfl rfl rfl rfl rfl (by omega)) (by simp only [Nat.zero_add, Nat.add_zero, Nat.reduceAdd, Nat.reduceMul, Nat.add_assoc, Nat.mul_one]; exact rfl) ?_
    refine WD.e0 (tb := tb) rfl rfl rfl rfl rfl (evE_H (evH_store rfl rfl rfl rfl rfl (Nat.zero_le _) rfl (by simp [vcells]) (by simp only [Bk_len, vcells, List.length_cons, List.length_nil, cellsI_len, cellsB_len, List.length_set, List.length_replicate, List.length_append, List.length_map, List.length_take, List.length_drop, bkL_len]; omega))) ?_; rw [upd_mem _ rfl]; simp only [vcells, List.set_cons_zero, List.set_cons_succ, hst]; (try simp only [setL, List.set_cons_zero, List.set_cons_succ])
    refine WD.fin rfl ?_
    refine jg ?_
    refine jW ?_
    refine jo ?_
    refine je ?_
    refine WS.nil ?_
    exact ⟨rfl, (jSn [0,1,2,3] (by simp [jVb, jOb, jMb, mapL_cellsR, okL_cellsR, ldSl, ldM]) (by simp only [jSl, jOb, jMb, Nat.reduceAdd, Nat.reduceLT, ldSl, ldM] <;> exact jClo))⟩
theorem ld_no1 (b p W n c sz o : Nat) (q : Bool) (I : List Int) (h2 : b ≤ 64) (h3 : 1 ≤ p) (h4 : p ≤ 32) (hW : W ≤ 680000) (hsz : sz = p * 68) (h : n = W + 2 * b) (hI : I.length = n) (hB : BytF I W) (j : Nat) (hj : j < b) (ho : (j : Int) * sz = (o : Int)) (ho2 : ((j : Int) + 1) * sz = ((o + sz : Nat) : Int)) (ho3 : o + sz ≤ W) (hfl : fgI I W j = 1) (hxp : nxI I W j ≤ p) (hA : allB I (o + (nxI I W j).toNat * 68) ((p - (nxI I W j).toNat) * 68) 255 = false) :
    WS Try.prog (frameN Try.f28 3) 1 [.c (k1 (k1 (k2 (k1 (k2 (k2 (k2 (k2 (k2 (k2 (kb Try.f28)))))))))))] (slt (ldSl b p n c sz q j)) (mem 0 (ldM I b p W j)) (LdQ I) := by
  have g1 : I[W + 2 * j]? = some (fgI I W j) := getD_get (by omega)
  have g2 : I[W + 2 * j + 1]? = some (nxI I W j) := getD_get (by omega)
  have hf := hB _ _ (by omega) g1
  have hn := hB _ _ (by omega) g2
  have hx1 : (W : Int) + 2 * (j : Int) = ((W + 2 * j : Nat) : Int) := by omega
  have hx2 : (W : Int) + 2 * (j : Int) + 1 = ((W + 2 * j + 1 : Nat) : Int) := by omega
  have hWI : (I.take W).length = W := by rw [List.length_take]; omega
  have hzp : o + sz - o = sz := by omega
  obtain ⟨x, hx⟩ : ∃ x : Nat, nxI I W j = x := ⟨(nxI I W j).toNat, by omega⟩
  rw [hx] at g2 hn
  have hzx : sz - x * 68 = (p - x) * 68 := by omega
  rw [hx] at hA hxp
  rw [Int.toNat_natCast] at hA
  have A1 := fun c q => all_walk (I.take W) (o + x * 68) (sz - x * 68) c 255 q (by omega) (by omega)
  rw [allB_take (by omega), hzx, hA] at A1
  rw [← hzx] at A1
  have hlt : x * 68 < W - o := Decidable.by_contra fun hn => by
    have e : (p - x) * 68 = 0 := by omega
    rw [e, allB_0] at hA; cases hA
  rw [hfl] at g1
  simp only [ldSl, ldM]
  refine jq ?_
  refine jg ?_
  refine jDT ?_
  refine je ?_
  refine jq ?_
  refine WS.pcondT rfl rfl ?_
  refine WS.pskip rfl ?_
  refine jq ?_
  refine WS.pblock rfl ?_
  refine jq ?_
  refine jg ?_
  iterate 2 refine jo ?_
  refine je ?_
  refine jq ?_
  refine WS.pdraw (tb := tb) (by kernel_rfl) rfl (by kernel_rfl) (by kernel_rfl) ?_
  iterate 3 refine jp ?_
  refine jd ?_
  refine jr ?_
  iterate 2 refine jp ?_
  refine jw ?_
  refine WD.p (tb := tb) rfl rfl rfl rfl (evP_addV rfl rfl rfl (by assumption) (by simp only [lo]; omega) (by simp only [Am.hi]; omega)) ?_
  refine WD.pP (tb := tb) rfl rfl rfl rfl (evP_index rfl rfl rfl rfl rfl rfl (by omega)) (by simp only [Nat.zero_add, Nat.add_zero, Nat.reduceAdd, Nat.reduceMul, Nat.add_assoc, Nat.mul_one]; exact rfl) ?_
  refine WD.r (tb := tb) rfl rfl rfl rfl (evQ_R rfl (evR_load rfl rfl rfl rfl (cellsI_get g1))) ?_
  iterate 3 refine jp ?_
  refine jd ?_
  refine jr ?_
  iterate 2 refine jp ?_
  refine jw ?_
  refine WD.p (tb := tb) rfl rfl rfl rfl (evP_addV rfl rfl rfl (by assumption) (by simp only [lo]; omega) (by simp only [Am.hi]; omega)) ?_
  refine WD.p (tb := tb) rfl rfl rfl rfl (evP_addV rfl rfl rfl (by assumption) (by simp only [lo]; omega) (by simp only [Am.hi]; omega)) ?_
  refine WD.pP (tb := tb) rfl rfl rfl rfl (evP_index rfl rfl rfl rfl rfl rfl (by omega)) (by simp only [Nat.zero_add, Nat.add_zero, Nat.reduceAdd, Nat.reduceMul, Nat.add_assoc, Nat.mul_one]; exact rfl) ?_
  refine WD.r (tb := tb) rfl rfl rfl rfl (evQ_R rfl (evR_load rfl rfl rfl rfl (cellsI_get g2))) ?_
  refine jw ?_
  iterate 2 refine jp ?_
  refine WD.fin rfl ?_
  iterate 2 refine jq ?_
  refine jg ?_
  refine jo ?_
  refine jB false ?_
  iterate 3 refine jo ?_
  refine jDF ?_
  refine jo ?_
  refine je ?_
  refine WS.pcondF rfl rfl ?_
  refine WS.pskip rfl ?_
  refine jq ?_
  refine jg ?_
  iterate 3 refine jo ?_
  refine jB true ?_
  iterate 2 refine jo ?_
  refine jB false ?_
  refine WS.poA (tb := tb) rfl rfl rfl rfl rfl (by simp only [vcells, setL, ll, nl, nz, Nat.reduceAdd, Nat.reduceMul, Int.reduceToNat]; exact rfl) ?_
  refine jn ?_
  refine js ?_
  refine je ?_
  refine jq ?_
  refine jg ?_
  iterate 2 refine jo ?_
  refine jP ?_
  iterate 3 refine jo ?_
  refine WS.po (tb := tb) rfl rfl rfl rfl (step_P (evP_mulV rfl rfl rfl (by assumption) (by simp only [lo]; omega) (by simp only [Am.hi]; omega))) ?_
  refine jo ?_
  refine jW ?_
  refine jo ?_
  refine WS.po (tb := tb) rfl rfl rfl rfl (step_P (evP_mulV rfl rfl rfl (by assumption) (by simp only [lo]; omega) (by simp only [Am.hi]; omega))) ?_
  refine WS.poV (tb := tb) rfl rfl rfl rfl (step_P (evP_sliceC (a := (o)) (b := (o+sz)) rfl rfl rfl rfl rfl rfl (by first | exact .inl ⟨rfl, rfl⟩ | exact .inr ⟨_, _, rfl, rfl⟩ | exact .inr ⟨_, _, rfl, by first | assumption | omega⟩ | exact .inr ⟨_, _, rfl, (Int.toNat_of_nonneg (by omega)).symm⟩) (by first | exact .inl ⟨rfl, rfl⟩ | exact .inr ⟨_, _, rfl, rfl⟩ | exact .inr ⟨_, _, rfl, by first | assumption | omega⟩ | exact .inr ⟨_, _, rfl, (Int.toNat_of_nonneg (by omega)).symm⟩) (by omega) (by omega) (by omega))) (by simp only [hzp, Nat.mul_one, Nat.zero_add]; exact rfl) ?_
  refine jo ?_
  refine je ?_
  refine jq ?_
  refine WS.pblock rfl ?_
  iterate 2 refine jq ?_
  refine jg ?_
  refine jP ?_
  iterate 2 refine jo ?_
  iterate 7 refine jN ?_
  iterate 2 refine jo ?_
  refine je ?_
  refine WS.pcondF rfl rfl ?_
  refine jg ?_
  refine jP ?_
  refine jo ?_
  refine jB true ?_
  iterate 3 refine jo ?_
  refine jW ?_
  refine WS.poV (tb := tb) rfl rfl rfl rfl (step_P (evP_sliceC (a := (x*68)) rfl rfl rfl rfl rfl rfl (by first | exact .inl ⟨rfl, rfl⟩ | exact .inr ⟨_, _, rfl, rfl⟩ | exact .inr ⟨_, _, rfl, by first | assumption | omega⟩ | exact .inr ⟨_, _, rfl, (Int.toNat_of_nonneg (by omega)).symm⟩) (by first | exact .inl ⟨rfl, rfl⟩ | exact .inr ⟨_, _, rfl, rfl⟩ | exact .inr ⟨_, _, rfl, by first | assumption | omega⟩ | exact .inr ⟨_, _, rfl, (Int.toNat_of_nonneg (by omega)).symm⟩) (by omega) (by omega) (by omega))) (by simp only [hzp, Nat.mul_one, Nat.zero_add]; exact rfl) ?_
  refine jc [1] (A1 _ _) (by simp [jOb]) (by simp [jEb, jOb, jMb, mapL_cellsR, okL_cellsR]) ?_; rintro _ _ ⟨rfl, rfl⟩ -; simp only [jPg, jMb, ll, Nat.reduceAdd, Nat.reduceLT, Nat.zero_add, if_true, if_false, Nat.reduceSub, reduceIte, mapL_cellsR, Nat.lt_irrefl, Nat.not_lt_zero, Nat.zero_lt_succ, Nat.lt_add_one]
  refine jB true ?_
  iterate 2 refine jo ?_
  refine je ?_
  refine WS.pcondT rfl rfl ?_
  refine jq ?_
  refine jg ?_
  iterate 2 refine jo ?_
  refine je ?_
  refine WS.pret rfl ?_
  exact ⟨rfl, _, rfl, _, rfl, [0], [some ⟨cellsR (rwI .u8) I, 5, false⟩], .tup [.p none, .i .i64 11], ⟨rfl, rfl, (by simp [jVb, jOb, jMb, mapL_cellsR, okL_cellsR, ldM]), rfl⟩, rfl, by simp [okV, okL], rfl, rfl⟩
theorem ld_ok2 (b p W n c sz o : Nat) (q : Bool) (I : List Int) (h2 : b ≤ 64) (h3 : 1 ≤ p) (h4 : p ≤ 32) (hW : W ≤ 680000) (hsz : sz = p * 68) (h : n = W + 2 * b) (hI : I.length = n) (hB : BytF I W) (j : Nat) (hj : j < b) (ho : (j : Int) * sz = (o : Int)) (ho2 : ((j : Int) + 1) * sz = ((o + sz : Nat) : Int)) (ho3 : o + sz ≤ W) (hfl : fgI I W j = 2) (hx0 : nxI I W j = 0) (hA : allB I o sz 0 = true) :
    WS Try.prog (frameN Try.f28 3) 1 [.c (k1 (k1 (k2 (k1 (k2 (k2 (k2 (k2 (k2 (k2 (kb Try.f28)))))))))))] (slt (ldSl b p n c sz q j)) (mem 0 (ldM I b p W j)) (fun x t' h' => x = .n ∧ Seen 1 t' h' (ldSl b p n c sz q (j + 1)) (ldM I b p W (j + 1))) := by
  have g1 : I[W + 2 * j]? = some (fgI I W j) := getD_get (by omega)
  have g2 : I[W + 2 * j + 1]? = some (nxI I W j) := getD_get (by omega)
  have hf := hB _ _ (by omega) g1
  have hn := hB _ _ (by omega) g2
  have hx1 : (W : Int) + 2 * (j : Int) = ((W + 2 * j : Nat) : Int) := by omega
  have hx2 : (W : Int) + 2 * (j : Int) + 1 = ((W + 2 * j + 1 : Nat) : Int) := by omega
  have hWI : (I.take W).length = W := by rw [List.length_take]; omega
  have hzp : o + sz - o = sz := by omega
  obtain ⟨x, hx⟩ : ∃ x : Nat, nxI I W j = x := ⟨(nxI I W j).toNat, by omega⟩
  rw [hx] at g2 hn
  have hzx : sz - x * 68 = (p - x) * 68 := by omega
  obtain rfl : x = 0 := by omega
  have hst := bkL_put I (W := W) hj (x := ((0 : Nat) : Int)) (u := false) (t := true) (by simp [ldBk, hfl, hx])
  have A2 := fun c q => all_walk (I.take W) o sz c 0 q (by omega) (by omega)
  rw [allB_take (by omega), hA] at A2
  rw [hfl] at g1
  simp only [ldSl, ldM]
  refine jq ?_
  refine jg ?_
  refine jDT ?_
  refine je ?_
  refine jq ?_
  refine WS.pcondT rfl rfl ?_
  refine WS.pskip rfl ?_
  refine jq ?_
  refine WS.pblock rfl ?_
  refine jq ?_
  refine jg ?_
  iterate 2 refine jo ?_
  refine je ?_
  refine jq ?_
  refine WS.pdraw (tb := tb) (by kernel_rfl) rfl (by kernel_rfl) (by kernel_rfl) ?_
  iterate 3 refine jp ?_
  refine jd ?_
  refine jr ?_
  iterate 2 refine jp ?_
  refine jw ?_
  refine WD.p (tb := tb) rfl rfl rfl rfl (evP_addV rfl rfl rfl (by assumption) (by simp only [lo]; omega) (by simp only [Am.hi]; omega)) ?_
  refine WD.pP (tb := tb) rfl rfl rfl rfl (evP_index rfl rfl rfl rfl rfl rfl (by omega)) (by simp only [Nat.zero_add, Nat.add_zero, Nat.reduceAdd, Nat.reduceMul, Nat.add_assoc, Nat.mul_one]; exact rfl) ?_
  refine WD.r (tb := tb) rfl rfl rfl rfl (evQ_R rfl (evR_load rfl rfl rfl rfl (cellsI_get g1))) ?_
  iterate 3 refine jp ?_
  refine jd ?_
  refine jr ?_
  iterate 2 refine jp ?_
  refine jw ?_
  refine WD.p (tb := tb) rfl rfl rfl rfl (evP_addV rfl rfl rfl (by assumption) (by simp only [lo]; omega) (by simp only [Am.hi]; omega)) ?_
  refine WD.p (tb := tb) rfl rfl rfl rfl (evP_addV rfl rfl rfl (by assumption) (by simp only [lo]; omega) (by simp only [Am.hi]; omega)) ?_
  refine WD.pP (tb := tb) rfl rfl rfl rfl (evP_index rfl rfl rfl rfl rfl rfl (by omega)) (by simp only [Nat.zero_add, Nat.add_zero, Nat.reduceAdd, Nat.reduceMul, Nat.add_assoc, Nat.mul_one]; exact rfl) ?_
  refine WD.r (tb := tb) rfl rfl rfl rfl (evQ_R rfl (evR_load rfl rfl rfl rfl (cellsI_get g2))) ?_
  refine jw ?_
  iterate 2 refine jp ?_
  refine WD.fin rfl ?_
  iterate 2 refine jq ?_
  refine jg ?_
  refine jo ?_
  refine jB false ?_
  iterate 3 refine jo ?_
  refine jB false ?_
  refine jo ?_
  refine je ?_
  refine WS.pcondF rfl rfl ?_
  refine WS.pskip rfl ?_
  refine jq ?_
  refine jg ?_
  iterate 3 refine jo ?_
  refine jB false ?_
  iterate 2 refine jo ?_
  refine jB true ?_
  refine WS.poA (tb := tb) rfl rfl rfl rfl rfl (by simp only [vcells, setL, ll, nl, nz, Nat.reduceAdd, Nat.reduceMul, Int.reduceToNat]; exact rfl) ?_
  refine jn ?_
  refine js ?_
  refine je ?_
  refine jq ?_
  refine jg ?_
  iterate 2 refine jo ?_
  refine jP ?_
  iterate 3 refine jo ?_
  refine WS.po (tb := tb) rfl rfl rfl rfl (step_P (evP_mulV rfl rfl rfl (by assumption) (by simp only [lo]; omega) (by simp only [Am.hi]; omega))) ?_
  refine jo ?_
  refine jW ?_
  refine jo ?_
  refine WS.po (tb := tb) rfl rfl rfl rfl (step_P (evP_mulV rfl rfl rfl (by assumption) (by simp only [lo]; omega) (by simp only [Am.hi]; omega))) ?_
  refine WS.poV (tb := tb) rfl rfl rfl rfl (step_P (evP_sliceC (a := (o)) (b := (o+sz)) rfl rfl rfl rfl rfl rfl (by first | exact .inl ⟨rfl, rfl⟩ | exact .inr ⟨_, _, rfl, rfl⟩ | exact .inr ⟨_, _, rfl, by first | assumption | omega⟩ | exact .inr ⟨_, _, rfl, (Int.toNat_of_nonneg (by omega)).symm⟩) (by first | exact .inl ⟨rfl, rfl⟩ | exact .inr ⟨_, _, rfl, rfl⟩ | exact .inr ⟨_, _, rfl, by first | assumption | omega⟩ | exact .inr ⟨_, _, rfl, (Int.toNat_of_nonneg (by omega)).symm⟩) (by omega) (by omega) (by omega))) (by simp only [hzp, Nat.mul_one, Nat.zero_add]; exact rfl) ?_
  refine jo ?_
  refine je ?_
  refine jq ?_
  refine WS.pblock rfl ?_
  iterate 2 refine jq ?_
  refine jg ?_
  refine jP ?_
  iterate 3 refine jo ?_
  refine jB false ?_
  iterate 2 refine jo ?_
  refine jc [1] (A2 _ _) (by simp [jOb]) (by simp [jEb, jOb, jMb, mapL_cellsR, okL_cellsR]) ?_; rintro _ _ ⟨rfl, rfl⟩ -; simp only [jPg, jMb, ll, Nat.reduceAdd, Nat.reduceLT, Nat.zero_add, if_true, if_false, Nat.reduceSub, reduceIte, mapL_cellsR, Nat.lt_irrefl, Nat.not_lt_zero, Nat.zero_lt_succ, Nat.lt_add_one]
  refine jB false ?_
  iterate 3 refine jo ?_
  refine je ?_
  refine WS.pcondF rfl rfl ?_
  refine jg ?_
  refine jP ?_
  refine jo ?_
  refine jB false ?_
  refine jo ?_
  iterate 6 refine jN ?_
  iterate 2 refine jo ?_
  refine je ?_
  refine WS.pcondF rfl rfl ?_
  refine WS.pskip rfl ?_
  refine WS.pdraw (tb := tb) (by kernel_rfl) rfl (by kernel_rfl) (by kernel_rfl) ?_
  iterate 2 refine jp ?_
  refine jd ?_
  refine jr ?_
  refine jp ?_
  refine WD.rA (tb := tb) rfl rfl rfl rfl rfl (by simp only [List.drop_zero, List.drop_succ_cons, List.take_succ_cons, List.take_zero, rwBk]; exact rfl) ?_
  refine WD.pP (tb := tb) rfl rfl rfl rfl (evP_index rfl rfl rfl rfl rfl rfl (by omega)) (by simp only [Nat.zero_add, Nat.add_zero, Nat.reduceAdd, Nat.reduceMul, Nat.add_assoc, Nat.mul_one]; exact rfl) ?_
  refine WD.e0 (tb := tb) rfl rfl rfl rfl rfl (evE_H (evH_store rfl rfl rfl rfl rfl (Nat.zero_le _) rfl (by simp [vcells]) (by simp only [Bk_len, vcells, List.length_cons, List.length_nil, cellsI_len, cellsB_len, List.length_set, List.length_replicate, List.length_append, List.length_map, List.length_take, List.length_drop, bkL_len]; omega))) ?_; rw [upd_mem _ rfl]; simp only [vcells, List.set_cons_zero, List.set_cons_succ, hst]; (try simp only [setL, List.set_cons_zero, List.set_cons_succ])
  refine WD.fin rfl ?_
  refine jg ?_
  refine jW ?_
  refine jo ?_
  refine je ?_
  refine WS.nil ?_
  exact ⟨rfl, (jSn [0,1,2,3] (by simp [jVb, jOb, jMb, mapL_cellsR, okL_cellsR, ldSl, ldM]) (by simp only [jSl, jOb, jMb, Nat.reduceAdd, Nat.reduceLT, ldSl, ldM] <;> exact jClo))⟩
theorem ld_no2 (b p W n c sz o : Nat) (q : Bool) (I : List Int) (h2 : b ≤ 64) (h3 : 1 ≤ p) (h4 : p ≤ 32) (hW : W ≤ 680000) (hsz : sz = p * 68) (h : n = W + 2 * b) (hI : I.length = n) (hB : BytF I W) (j : Nat) (hj : j < b) (ho : (j : Int) * sz = (o : Int)) (ho2 : ((j : Int) + 1) * sz = ((o + sz : Nat) : Int)) (ho3 : o + sz ≤ W) (hfl : fgI I W j = 2) (hx0 : nxI I W j = 0) (hA : allB I o sz 0 = false) :
    WS Try.prog (frameN Try.f28 3) 1 [.c (k1 (k1 (k2 (k1 (k2 (k2 (k2 (k2 (k2 (k2 (kb Try.f28)))))))))))] (slt (ldSl b p n c sz q j)) (mem 0 (ldM I b p W j)) (LdQ I) := by
  have g1 : I[W + 2 * j]? = some (fgI I W j) := getD_get (by omega)
  have g2 : I[W + 2 * j + 1]? = some (nxI I W j) := getD_get (by omega)
  have hf := hB _ _ (by omega) g1
  have hn := hB _ _ (by omega) g2
  have hx1 : (W : Int) + 2 * (j : Int) = ((W + 2 * j : Nat) : Int) := by omega
  have hx2 : (W : Int) + 2 * (j : Int) + 1 = ((W + 2 * j + 1 : Nat) : Int) := by omega
  have hWI : (I.take W).length = W := by rw [List.length_take]; omega
  have hzp : o + sz - o = sz := by omega
  obtain ⟨x, hx⟩ : ∃ x : Nat, nxI I W j = x := ⟨(nxI I W j).toNat, by omega⟩
  rw [hx] at g2 hn
  have hzx : sz - x * 68 = (p - x) * 68 := by omega
  obtain rfl : x = 0 := by omega
  have A2 := fun c q => all_walk (I.take W) o sz c 0 q (by omega) (by omega)
  rw [allB_take (by omega), hA] at A2
  rw [hfl] at g1
  simp only [ldSl, ldM]
  refine jq ?_
  refine jg ?_
  refine jDT ?_
  refine je ?_
  refine jq ?_
  refine WS.pcondT rfl rfl ?_
  refine WS.pskip rfl ?_
  refine jq ?_
  refine WS.pblock rfl ?_
  refine jq ?_
  refine jg ?_
  iterate 2 refine jo ?_
  refine je ?_
  refine jq ?_
  refine WS.pdraw (tb := tb) (by kernel_rfl) rfl (by kernel_rfl) (by kernel_rfl) ?_
  iterate 3 refine jp ?_
  refine jd ?_
  refine jr ?_
  iterate 2 refine jp ?_
  refine jw ?_
  refine WD.p (tb := tb) rfl rfl rfl rfl (evP_addV rfl rfl rfl (by assumption) (by simp only [lo]; omega) (by simp only [Am.hi]; omega)) ?_
  refine WD.pP (tb := tb) rfl rfl rfl rfl (evP_index rfl rfl rfl rfl rfl rfl (by omega)) (by simp only [Nat.zero_add, Nat.add_zero, Nat.reduceAdd, Nat.reduceMul, Nat.add_assoc, Nat.mul_one]; exact rfl) ?_
  refine WD.r (tb := tb) rfl rfl rfl rfl (evQ_R rfl (evR_load rfl rfl rfl rfl (cellsI_get g1))) ?_
  iterate 3 refine jp ?_
  refine jd ?_
  refine jr ?_
  iterate 2 refine jp ?_
  refine jw ?_
  refine WD.p (tb := tb) rfl rfl rfl rfl (evP_addV rfl rfl rfl (by assumption) (by simp only [lo]; omega) (by simp only [Am.hi]; omega)) ?_
  refine WD.p (tb := tb) rfl rfl rfl rfl (evP_addV rfl rfl rfl (by assumption) (by simp only [lo]; omega) (by simp only [Am.hi]; omega)) ?_
  refine WD.pP (tb := tb) rfl rfl rfl rfl (evP_index rfl rfl rfl rfl rfl rfl (by omega)) (by simp only [Nat.zero_add, Nat.add_zero, Nat.reduceAdd, Nat.reduceMul, Nat.add_assoc, Nat.mul_one]; exact rfl) ?_
  refine WD.r (tb := tb) rfl rfl rfl rfl (evQ_R rfl (evR_load rfl rfl rfl rfl (cellsI_get g2))) ?_
  refine jw ?_
  iterate 2 refine jp ?_
  refine WD.fin rfl ?_
  iterate 2 refine jq ?_
  refine jg ?_
  refine jo ?_
  refine jB false ?_
  iterate 3 refine jo ?_
  refine jB false ?_
  refine jo ?_
  refine je ?_
  refine WS.pcondF rfl rfl ?_
  refine WS.pskip rfl ?_
  refine jq ?_
  refine jg ?_
  iterate 3 refine jo ?_
  refine jB false ?_
  iterate 2 refine jo ?_
  refine jB true ?_
  refine WS.poA (tb := tb) rfl rfl rfl rfl rfl (by simp only [vcells, setL, ll, nl, nz, Nat.reduceAdd, Nat.reduceMul, Int.reduceToNat]; exact rfl) ?_
  refine jn ?_
  refine js ?_
  refine je ?_
  refine jq ?_
  refine jg ?_
  iterate 2 refine jo ?_
  refine jP ?_
  iterate 3 refine jo ?_
  refine WS.po (tb := tb) rfl rfl rfl rfl (step_P (evP_mulV rfl rfl rfl (by assumption) (by simp only [lo]; omega) (by simp only [Am.hi]; omega))) ?_
  refine jo ?_
  refine jW ?_
  refine jo ?_
  refine WS.po (tb := tb) rfl rfl rfl rfl (step_P (evP_mulV rfl rfl rfl (by assumption) (by simp only [lo]; omega) (by simp only [Am.hi]; omega))) ?_
  refine WS.poV (tb := tb) rfl rfl rfl rfl (step_P (evP_sliceC (a := (o)) (b := (o+sz)) rfl rfl rfl rfl rfl rfl (by first | exact .inl ⟨rfl, rfl⟩ | exact .inr ⟨_, _, rfl, rfl⟩ | exact .inr ⟨_, _, rfl, by first | assumption | omega⟩ | exact .inr ⟨_, _, rfl, (Int.toNat_of_nonneg (by omega)).symm⟩) (by first | exact .inl ⟨rfl, rfl⟩ | exact .inr ⟨_, _, rfl, rfl⟩ | exact .inr ⟨_, _, rfl, by first | assumption | omega⟩ | exact .inr ⟨_, _, rfl, (Int.toNat_of_nonneg (by omega)).symm⟩) (by omega) (by omega) (by omega))) (by simp only [hzp, Nat.mul_one, Nat.zero_add]; exact rfl) ?_
  refine jo ?_
  refine je ?_
  refine jq ?_
  refine WS.pblock rfl ?_
  iterate 2 refine jq ?_
  refine jg ?_
  refine jP ?_
  iterate 3 refine jo ?_
  refine jB false ?_
  iterate 2 refine jo ?_
  refine jc [1] (A2 _ _) (by simp [jOb]) (by simp [jEb, jOb, jMb, mapL_cellsR, okL_cellsR]) ?_; rintro _ _ ⟨rfl, rfl⟩ -; simp only [jPg, jMb, ll, Nat.reduceAdd, Nat.reduceLT, Nat.zero_add, if_true, if_false, Nat.reduceSub, reduceIte, mapL_cellsR, Nat.lt_irrefl, Nat.not_lt_zero, Nat.zero_lt_succ, Nat.lt_add_one]
  refine jB true ?_
  iterate 3 refine jo ?_
  refine je ?_
  refine WS.pcondT rfl rfl ?_
  refine WS.pskip rfl ?_
  refine WS.pcondT rfl rfl ?_
  refine jq ?_
  refine jg ?_
  iterate 2 refine jo ?_
  refine je ?_
  refine WS.pret rfl ?_
  exact ⟨rfl, _, rfl, _, rfl, [0], [some ⟨cellsR (rwI .u8) I, 5, false⟩], .tup [.p none, .i .i64 11], ⟨rfl, rfl, (by simp [jVb, jOb, jMb, mapL_cellsR, okL_cellsR, ldM]), rfl⟩, rfl, by simp [okV, okL], rfl, rfl⟩
theorem ld_nx2 (b p W n c sz o : Nat) (q : Bool) (I : List Int) (h2 : b ≤ 64) (h3 : 1 ≤ p) (h4 : p ≤ 32) (hW : W ≤ 680000) (hsz : sz = p * 68) (h : n = W + 2 * b) (hI : I.length = n) (hB : BytF I W) (j : Nat) (hj : j < b) (ho : (j : Int) * sz = (o : Int)) (ho2 : ((j : Int) + 1) * sz = ((o + sz : Nat) : Int)) (ho3 : o + sz ≤ W) (hfl : fgI I W j = 2) (hxp : nxI I W j ≤ p) (hx0 : ¬ nxI I W j = 0) :
    WS Try.prog (frameN Try.f28 3) 1 [.c (k1 (k1 (k2 (k1 (k2 (k2 (k2 (k2 (k2 (k2 (kb Try.f28)))))))))))] (slt (ldSl b p n c sz q j)) (mem 0 (ldM I b p W j)) (LdQ I) := by
  have g1 : I[W + 2 * j]? = some (fgI I W j) := getD_get (by omega)
  have g2 : I[W + 2 * j + 1]? = some (nxI I W j) := getD_get (by omega)
  have hf := hB _ _ (by omega) g1
  have hn := hB _ _ (by omega) g2
  have hx1 : (W : Int) + 2 * (j : Int) = ((W + 2 * j : Nat) : Int) := by omega
  have hx2 : (W : Int) + 2 * (j : Int) + 1 = ((W + 2 * j + 1 : Nat) : Int) := by omega
  have hWI : (I.take W).length = W := by rw [List.length_take]; omega
  have hzp : o + sz - o = sz := by omega
  obtain ⟨x, hx⟩ : ∃ x : Nat, nxI I W j = x := ⟨(nxI I W j).toNat, by omega⟩
  rw [hx] at g2 hn
  have hzx : sz - x * 68 = (p - x) * 68 := by omega
  rw [hx] at hxp hx0
  rw [hfl] at g1
  simp only [ldSl, ldM]
  refine jq ?_
  refine jg ?_
  refine jDT ?_
  refine je ?_
  refine jq ?_
  refine WS.pcondT rfl rfl ?_
  refine WS.pskip rfl ?_
  refine jq ?_
  refine WS.pblock rfl ?_
  refine jq ?_
  refine jg ?_
  iterate 2 refine jo ?_
  refine je ?_
  refine jq ?_
  refine WS.pdraw (tb := tb) (by kernel_rfl) rfl (by kernel_rfl) (by kernel_rfl) ?_
  iterate 3 refine jp ?_
  refine jd ?_
  refine jr ?_
  iterate 2 refine jp ?_
  refine jw ?_
  refine WD.p (tb := tb) rfl rfl rfl rfl (evP_addV rfl rfl rfl (by assumption) (by simp only [lo]; omega) (by simp only [Am.hi]; omega)) ?_
  refine WD.pP (tb := tb) rfl rfl rfl rfl (evP_index rfl rfl rfl rfl rfl rfl (by omega)) (by simp only [Nat.zero_add, Nat.add_zero, Nat.reduceAdd, Nat.reduceMul, Nat.add_assoc, Nat.mul_one]; exact rfl) ?_
  refine WD.r (tb := tb) rfl rfl rfl rfl (evQ_R rfl (evR_load rfl rfl rfl rfl (cellsI_get g1))) ?_
  iterate 3 refine jp ?_
  refine jd ?_
  refine jr ?_
  iterate 2 refine jp ?_
  refine jw ?_
  refine WD.p (tb := tb) rfl rfl rfl rfl (evP_addV rfl rfl rfl (by assumption) (by simp only [lo]; omega) (by simp only [Am.hi]; omega)) ?_
  refine WD.p (tb := tb) rfl rfl rfl rfl (evP_addV rfl rfl rfl (by assumption) (by simp only [lo]; omega) (by simp only [Am.hi]; omega)) ?_
  refine WD.pP (tb := tb) rfl rfl rfl rfl (evP_index rfl rfl rfl rfl rfl rfl (by omega)) (by simp only [Nat.zero_add, Nat.add_zero, Nat.reduceAdd, Nat.reduceMul, Nat.add_assoc, Nat.mul_one]; exact rfl) ?_
  refine WD.r (tb := tb) rfl rfl rfl rfl (evQ_R rfl (evR_load rfl rfl rfl rfl (cellsI_get g2))) ?_
  refine jw ?_
  iterate 2 refine jp ?_
  refine WD.fin rfl ?_
  iterate 2 refine jq ?_
  refine jg ?_
  refine jo ?_
  refine jB false ?_
  iterate 3 refine jo ?_
  refine jDF ?_
  refine jo ?_
  refine je ?_
  refine WS.pcondF rfl rfl ?_
  refine WS.pskip rfl ?_
  refine jq ?_
  refine jg ?_
  iterate 3 refine jo ?_
  refine jB false ?_
  iterate 2 refine jo ?_
  refine jB true ?_
  refine WS.poA (tb := tb) rfl rfl rfl rfl rfl (by simp only [vcells, setL, ll, nl, nz, Nat.reduceAdd, Nat.reduceMul, Int.reduceToNat]; exact rfl) ?_
  refine jn ?_
  refine js ?_
  refine je ?_
  refine jq ?_
  refine jg ?_
  iterate 2 refine jo ?_
  refine jP ?_
  iterate 3 refine jo ?_
  refine WS.po (tb := tb) rfl rfl rfl rfl (step_P (evP_mulV rfl rfl rfl (by assumption) (by simp only [lo]; omega) (by simp only [Am.hi]; omega))) ?_
  refine jo ?_
  refine jW ?_
  refine jo ?_
  refine WS.po (tb := tb) rfl rfl rfl rfl (step_P (evP_mulV rfl rfl rfl (by assumption) (by simp only [lo]; omega) (by simp only [Am.hi]; omega))) ?_
  refine WS.poV (tb := tb) rfl rfl rfl rfl (step_P (evP_sliceC (a := (o)) (b := (o+sz)) rfl rfl rfl rfl rfl rfl (by first | exact .inl ⟨rfl, rfl⟩ | exact .inr ⟨_, _, rfl, rfl⟩ | exact .inr ⟨_, _, rfl, by first | assumption | omega⟩ | exact .inr ⟨_, _, rfl, (Int.toNat_of_nonneg (by omega)).symm⟩) (by first | exact .inl ⟨rfl, rfl⟩ | exact .inr ⟨_, _, rfl, rfl⟩ | exact .inr ⟨_, _, rfl, by first | assumption | omega⟩ | exact .inr ⟨_, _, rfl, (Int.toNat_of_nonneg (by omega)).symm⟩) (by omega) (by omega) (by omega))) (by simp only [hzp, Nat.mul_one, Nat.zero_add]; exact rfl) ?_
  refine jo ?_
  refine je ?_
  refine jq ?_
  refine WS.pblock rfl ?_
  iterate 2 refine jq ?_
  refine jg ?_
  refine jP ?_
  iterate 3 refine jo ?_
  refine jDT ?_
  refine jo ?_
  iterate 3 refine jN ?_
  iterate 3 refine jo ?_
  refine je ?_
  refine WS.pcondT rfl rfl ?_
  refine WS.pskip rfl ?_
  refine WS.pcondT rfl rfl ?_
  refine jq ?_
  refine jg ?_
  iterate 2 refine jo ?_
  refine je ?_
  refine WS.pret rfl ?_
  exact ⟨rfl, _, rfl, _, rfl, [0], [some ⟨cellsR (rwI .u8) I, 5, false⟩], .tup [.p none, .i .i64 11], ⟨rfl, rfl, (by simp [jVb, jOb, jMb, mapL_cellsR, okL_cellsR, ldM]), rfl⟩, rfl, by simp [okV, okL], rfl, rfl⟩
theorem ld_ok3 (b p W n c sz o : Nat) (q : Bool) (I : List Int) (h2 : b ≤ 64) (h3 : 1 ≤ p) (h4 : p ≤ 32) (hW : W ≤ 680000) (hsz : sz = p * 68) (h : n = W + 2 * b) (hI : I.length = n) (hB : BytF I W) (j : Nat) (hj : j < b) (ho : (j : Int) * sz = (o : Int)) (ho2 : ((j : Int) + 1) * sz = ((o + sz : Nat) : Int)) (ho3 : o + sz ≤ W) (hfl : fgI I W j = 3) (hx0 : nxI I W j = 0) (hA : allB I o sz 0 = true) :
    WS Try.prog (frameN Try.f28 3) 1 [.c (k1 (k1 (k2 (k1 (k2 (k2 (k2 (k2 (k2 (k2 (kb Try.f28)))))))))))] (slt (ldSl b p n c sz q j)) (mem 0 (ldM I b p W j)) (fun x t' h' => x = .n ∧ Seen 1 t' h' (ldSl b p n c sz q (j + 1)) (ldM I b p W (j + 1))) := by
  have g1 : I[W + 2 * j]? = some (fgI I W j) := getD_get (by omega)
  have g2 : I[W + 2 * j + 1]? = some (nxI I W j) := getD_get (by omega)
  have hf := hB _ _ (by omega) g1
  have hn := hB _ _ (by omega) g2
  have hx1 : (W : Int) + 2 * (j : Int) = ((W + 2 * j : Nat) : Int) := by omega
  have hx2 : (W : Int) + 2 * (j : Int) + 1 = ((W + 2 * j + 1 : Nat) : Int) := by omega
  have hWI : (I.take W).length = W := by rw [List.length_take]; omega
  have hzp : o + sz - o = sz := by omega
  obtain ⟨x, hx⟩ : ∃ x : Nat, nxI I W j = x := ⟨(nxI I W j).toNat, by omega⟩
  rw [hx] at g2 hn
  have hzx : sz - x * 68 = (p - x) * 68 := by omega
  obtain rfl : x = 0 := by omega
  have hst := bkL_put I (W := W) hj (x := ((0 : Nat) : Int)) (u := true) (t := true) (by simp [ldBk, hfl, hx])
  have A2 := fun c q => all_walk (I.take W) o sz c 0 q (by omega) (by omega)
  rw [allB_take (by omega), hA] at A2
  rw [hfl] at g1
  simp only [ldSl, ldM]
  refine jq ?_
  refine jg ?_
  refine jDT ?_
  refine je ?_
  refine jq ?_
  refine WS.pcondT rfl rfl ?_
  refine WS.pskip rfl ?_
  refine jq ?_
  refine WS.pblock rfl ?_
  refine jq ?_
  refine jg ?_
  iterate 2 refine jo ?_
  refine je ?_
  refine jq ?_
  refine WS.pdraw (tb := tb) (by kernel_rfl) rfl (by kernel_rfl) (by kernel_rfl) ?_
  iterate 3 refine jp ?_
  refine jd ?_
  refine jr ?_
  iterate 2 refine jp ?_
  refine jw ?_
  refine WD.p (tb := tb) rfl rfl rfl rfl (evP_addV rfl rfl rfl (by assumption) (by simp only [lo]; omega) (by simp only [Am.hi]; omega)) ?_
  refine WD.pP (tb := tb) rfl rfl rfl rfl (evP_index rfl rfl rfl rfl rfl rfl (by omega)) (by simp only [Nat.zero_add, Nat.add_zero, Nat.reduceAdd, Nat.reduceMul, Nat.add_assoc, Nat.mul_one]; exact rfl) ?_
  refine WD.r (tb := tb) rfl rfl rfl rfl (evQ_R rfl (evR_load rfl rfl rfl rfl (cellsI_get g1))) ?_
  iterate 3 refine jp ?_
  refine jd ?_
  refine jr ?_
  iterate 2 refine jp ?_
  refine jw ?_
  refine WD.p (tb := tb) rfl rfl rfl rfl (evP_addV rfl rfl rfl (by assumption) (by simp only [lo]; omega) (by simp only [Am.hi]; omega)) ?_
  refine WD.p (tb := tb) rfl rfl rfl rfl (evP_addV rfl rfl rfl (by assumption) (by simp only [lo]; omega) (by simp only [Am.hi]; omega)) ?_
  refine WD.pP (tb := tb) rfl rfl rfl rfl (evP_index rfl rfl rfl rfl rfl rfl (by omega)) (by simp only [Nat.zero_add, Nat.add_zero, Nat.reduceAdd, Nat.reduceMul, Nat.add_assoc, Nat.mul_one]; exact rfl) ?_
  refine WD.r (tb := tb) rfl rfl rfl rfl (evQ_R rfl (evR_load rfl rfl rfl rfl (cellsI_get g2))) ?_
  refine jw ?_
  iterate 2 refine jp ?_
  refine WD.fin rfl ?_
  iterate 2 refine jq ?_
  refine jg ?_
  refine jo ?_
  refine jB false ?_
  iterate 3 refine jo ?_
  refine jB false ?_
  refine jo ?_
  refine je ?_
  refine WS.pcondF rfl rfl ?_
  refine WS.pskip rfl ?_
  refine jq ?_
  refine jg ?_
  iterate 3 refine jo ?_
  refine jB true ?_
  iterate 2 refine jo ?_
  refine jB true ?_
  refine WS.poA (tb := tb) rfl rfl rfl rfl rfl (by simp only [vcells, setL, ll, nl, nz, Nat.reduceAdd, Nat.reduceMul, Int.reduceToNat]; exact rfl) ?_
  refine jn ?_
  refine js ?_
  refine je ?_
  refine jq ?_
  refine jg ?_
  iterate 2 refine jo ?_
  refine jP ?_
  iterate 3 refine jo ?_
  refine WS.po (tb := tb) rfl rfl rfl rfl (step_P (evP_mulV rfl rfl rfl (by assumption) (by simp only [lo]; omega) (by simp only [Am.hi]; omega))) ?_
  refine jo ?_
  refine jW ?_
  refine jo ?_
  refine WS.po (tb := tb) rfl rfl rfl rfl (step_P (evP_mulV rfl rfl rfl (by assumption) (by simp only [lo]; omega) (by simp only [Am.hi]; omega))) ?_
  refine WS.poV (tb := tb) rfl rfl rfl rfl (step_P (evP_sliceC (a := (o)) (b := (o+sz)) rfl rfl rfl rfl rfl rfl (by first | exact .inl ⟨rfl, rfl⟩ | exact .inr ⟨_, _, rfl, rfl⟩ | exact .inr ⟨_, _, rfl, by first | assumption | omega⟩ | exact .inr ⟨_, _, rfl, (Int.toNat_of_nonneg (by omega)).symm⟩) (by first | exact .inl ⟨rfl, rfl⟩ | exact .inr ⟨_, _, rfl, rfl⟩ | exact .inr ⟨_, _, rfl, by first | assumption | omega⟩ | exact .inr ⟨_, _, rfl, (Int.toNat_of_nonneg (by omega)).symm⟩) (by omega) (by omega) (by omega))) (by simp only [hzp, Nat.mul_one, Nat.zero_add]; exact rfl) ?_
  refine jo ?_
  refine je ?_
  refine jq ?_
  refine WS.pblock rfl ?_
  iterate 2 refine jq ?_
  refine jg ?_
  refine jP ?_
  iterate 3 refine jo ?_
  refine jB false ?_
  iterate 2 refine jo ?_
  refine jc [1] (A2 _ _) (by simp [jOb]) (by simp [jEb, jOb, jMb, mapL_cellsR, okL_cellsR]) ?_; rintro _ _ ⟨rfl, rfl⟩ -; simp only [jPg, jMb, ll, Nat.reduceAdd, Nat.reduceLT, Nat.zero_add, if_true, if_false, Nat.reduceSub, reduceIte, mapL_cellsR, Nat.lt_irrefl, Nat.not_lt_zero, Nat.zero_lt_succ, Nat.lt_add_one]
  refine jB false ?_
  iterate 3 refine jo ?_
  refine je ?_
  refine WS.pcondF rfl rfl ?_
  refine jg ?_
  refine jP ?_
  refine jo ?_
  refine jB false ?_
  refine jo ?_
  iterate 6 refine jN ?_
  iterate 2 refine jo ?_
  refine je ?_
  refine WS.pcondF rfl rfl ?_
  refine WS.pskip rfl ?_
  refine WS.pdraw (tb := tb) (by kernel_rfl) rfl (by kernel_rfl) (by kernel_rfl) ?_
  iterate 2 refine jp ?_
  refine jd ?_
  refine jr ?_
  refine jp ?_
  refine WD.rA (tb := tb) rfl rfl rfl rfl rfl (by simp only [List.drop_zero, List.drop_succ_cons, List.take_succ_cons, List.take_zero, rwBk]; exact rfl) ?_
  refine WD.pP (tb := tb) rfl rfl rfl rfl (evP_index rfl rfl rfl rfl rfl rfl (by omega)) (by simp only [Nat.zero_add, Nat.add_zero, Nat.reduceAdd, Nat.reduceMul, Nat.add_assoc, Nat.mul_one]; exact rfl) ?_
  refine WD.e0 (tb := tb) rfl rfl rfl rfl rfl (evE_H (evH_store rfl rfl rfl rfl rfl (Nat.zero_le _) rfl (by simp [vcells]) (by simp only [Bk_len, vcells, List.length_cons, List.length_nil, cellsI_len, cellsB_len, List.length_set, List.length_replicate, List.length_append, List.length_map, List.length_take, List.length_drop, bkL_len]; omega))) ?_; rw [upd_mem _ rfl]; simp only [vcells, List.set_cons_zero, List.set_cons_succ, hst]; (try simp only [setL, List.set_cons_zero, List.set_cons_succ])
  refine WD.fin rfl ?_
  refine jg ?_
  refine jW ?_
  refine jo ?_
  refine je ?_
  refine WS.nil ?_
  exact ⟨rfl, (jSn [0,1,2,3] (by simp [jVb, jOb, jMb, mapL_cellsR, okL_cellsR, ldSl, ldM]) (by simp only [jSl, jOb, jMb, Nat.reduceAdd, Nat.reduceLT, ldSl, ldM] <;> exact jClo))⟩
theorem ld_no3 (b p W n c sz o : Nat) (q : Bool) (I : List Int) (h2 : b ≤ 64) (h3 : 1 ≤ p) (h4 : p ≤ 32) (hW : W ≤ 680000) (hsz : sz = p * 68) (h : n = W + 2 * b) (hI : I.length = n) (hB : BytF I W) (j : Nat) (hj : j < b) (ho : (j : Int) * sz = (o : Int)) (ho2 : ((j : Int) + 1) * sz = ((o + sz : Nat) : Int)) (ho3 : o + sz ≤ W) (hfl : fgI I W j = 3) (hx0 : nxI I W j = 0) (hA : allB I o sz 0 = false) :
    WS Try.prog (frameN Try.f28 3) 1 [.c (k1 (k1 (k2 (k1 (k2 (k2 (k2 (k2 (k2 (k2 (kb Try.f28)))))))))))] (slt (ldSl b p n c sz q j)) (mem 0 (ldM I b p W j)) (LdQ I) := by
  have g1 : I[W + 2 * j]? = some (fgI I W j) := getD_get (by omega)
  have g2 : I[W + 2 * j + 1]? = some (nxI I W j) := getD_get (by omega)
  have hf := hB _ _ (by omega) g1
  have hn := hB _ _ (by omega) g2
  have hx1 : (W : Int) + 2 * (j : Int) = ((W + 2 * j : Nat) : Int) := by omega
  have hx2 : (W : Int) + 2 * (j : Int) + 1 = ((W + 2 * j + 1 : Nat) : Int) := by omega
  have hWI : (I.take W).length = W := by rw [List.length_take]; omega
  have hzp : o + sz - o = sz := by omega
  obtain ⟨x, hx⟩ : ∃ x : Nat, nxI I W j = x := ⟨(nxI I W j).toNat, by omega⟩
  rw [hx] at g2 hn
  have hzx : sz - x * 68 = (p - x) * 68 := by omega
  obtain rfl : x = 0 := by omega
  have A2 := fun c q => all_walk (I.take W) o sz c 0 q (by omega) (by omega)
  rw [allB_take (by omega), hA] at A2
  rw [hfl] at g1
  simp only [ldSl, ldM]
  refine jq ?_
  refine jg ?_
  refine jDT ?_
  refine je ?_
  refine jq ?_
  refine WS.pcondT rfl rfl ?_
  refine WS.pskip rfl ?_
  refine jq ?_
  refine WS.pblock rfl ?_
  refine jq ?_
  refine jg ?_
  iterate 2 refine jo ?_
  refine je ?_
  refine jq ?_
  refine WS.pdraw (tb := tb) (by kernel_rfl) rfl (by kernel_rfl) (by kernel_rfl) ?_
  iterate 3 refine jp ?_
  refine jd ?_
  refine jr ?_
  iterate 2 refine jp ?_
  refine jw ?_
  refine WD.p (tb := tb) rfl rfl rfl rfl (evP_addV rfl rfl rfl (by assumption) (by simp only [lo]; omega) (by simp only [Am.hi]; omega)) ?_
  refine WD.pP (tb := tb) rfl rfl rfl rfl (evP_index rfl rfl rfl rfl rfl rfl (by omega)) (by simp only [Nat.zero_add, Nat.add_zero, Nat.reduceAdd, Nat.reduceMul, Nat.add_assoc, Nat.mul_one]; exact rfl) ?_
  refine WD.r (tb := tb) rfl rfl rfl rfl (evQ_R rfl (evR_load rfl rfl rfl rfl (cellsI_get g1))) ?_
  iterate 3 refine jp ?_
  refine jd ?_
  refine jr ?_
  iterate 2 refine jp ?_
  refine jw ?_
  refine WD.p (tb := tb) rfl rfl rfl rfl (evP_addV rfl rfl rfl (by assumption) (by simp only [lo]; omega) (by simp only [Am.hi]; omega)) ?_
  refine WD.p (tb := tb) rfl rfl rfl rfl (evP_addV rfl rfl rfl (by assumption) (by simp only [lo]; omega) (by simp only [Am.hi]; omega)) ?_
  refine WD.pP (tb := tb) rfl rfl rfl rfl (evP_index rfl rfl rfl rfl rfl rfl (by omega)) (by simp only [Nat.zero_add, Nat.add_zero, Nat.reduceAdd, Nat.reduceMul, Nat.add_assoc, Nat.mul_one]; exact rfl) ?_
  refine WD.r (tb := tb) rfl rfl rfl rfl (evQ_R rfl (evR_load rfl rfl rfl rfl (cellsI_get g2))) ?_
  refine jw ?_
  iterate 2 refine jp ?_
  refine WD.fin rfl ?_
  iterate 2 refine jq ?_
  refine jg ?_
  refine jo ?_
  refine jB false ?_
  iterate 3 refine jo ?_
  refine jB false ?_
  refine jo ?_
  refine je ?_
  refine WS.pcondF rfl rfl ?_
  refine WS.pskip rfl ?_
  refine jq ?_
  refine jg ?_
  iterate 3 refine jo ?_
  refine jB true ?_
  iterate 2 refine jo ?_
  refine jB true ?_
  refine WS.poA (tb := tb) rfl rfl rfl rfl rfl (by simp only [vcells, setL, ll, nl, nz, Nat.reduceAdd, Nat.reduceMul, Int.reduceToNat]; exact rfl) ?_
  refine jn ?_
  refine js ?_
  refine je ?_
  refine jq ?_
  refine jg ?_
  iterate 2 refine jo ?_
  refine jP ?_
  iterate 3 refine jo ?_
  refine WS.po (tb := tb) rfl rfl rfl rfl (step_P (evP_mulV rfl rfl rfl (by assumption) (by simp only [lo]; omega) (by simp only [Am.hi]; omega))) ?_
  refine jo ?_
  refine jW ?_
  refine jo ?_
  refine WS.po (tb := tb) rfl rfl rfl rfl (step_P (evP_mulV rfl rfl rfl (by assumption) (by simp only [lo]; omega) (by simp only [Am.hi]; omega))) ?_
  refine WS.poV (tb := tb) rfl rfl rfl rfl (step_P (evP_sliceC (a := (o)) (b := (o+sz)) rfl rfl rfl rfl rfl rfl (by first | exact .inl ⟨rfl, rfl⟩ | exact .inr ⟨_, _, rfl, rfl⟩ | exact .inr ⟨_, _, rfl, by first | assumption | omega⟩ | exact .inr ⟨_, _, rfl, (Int.toNat_of_nonneg (by omega)).symm⟩) (by first | exact .inl ⟨rfl, rfl⟩ | exact .inr ⟨_, _, rfl, rfl⟩ | exact .inr ⟨_, _, rfl, by first | assumption | omega⟩ | exact .inr ⟨_, _, rfl, (Int.toNat_of_nonneg (by omega)).symm⟩) (by omega) (by omega) (by omega))) (by simp only [hzp, Nat.mul_one, Nat.zero_add]; exact rfl) ?_
  refine jo ?_
  refine je ?_
  refine jq ?_
  refine WS.pblock rfl ?_
  iterate 2 refine jq ?_
  refine jg ?_
  refine jP ?_
  iterate 3 refine jo ?_
  refine jB false ?_
  iterate 2 refine jo ?_
  refine jc [1] (A2 _ _) (by simp [jOb]) (by simp [jEb, jOb, jMb, mapL_cellsR, okL_cellsR]) ?_; rintro _ _ ⟨rfl, rfl⟩ -; simp only [jPg, jMb, ll, Nat.reduceAdd, Nat.reduceLT, Nat.zero_add, if_true, if_false, Nat.reduceSub, reduceIte, mapL_cellsR, Nat.lt_irrefl, Nat.not_lt_zero, Nat.zero_lt_succ, Nat.lt_add_one]
  refine jB true ?_
  iterate 3 refine jo ?_
  refine je ?_
  refine WS.pcondT rfl rfl ?_
  refine WS.pskip rfl ?_
  refine WS.pcondT rfl rfl ?_
  refine jq ?_
  refine jg ?_
  iterate 2 refine jo ?_
  refine je ?_
  refine WS.pret rfl ?_
  exact ⟨rfl, _, rfl, _, rfl, [0], [some ⟨cellsR (rwI .u8) I, 5, false⟩], .tup [.p none, .i .i64 11], ⟨rfl, rfl, (by simp [jVb, jOb, jMb, mapL_cellsR, okL_cellsR, ldM]), rfl⟩, rfl, by simp [okV, okL], rfl, rfl⟩
theorem ld_nx3 (b p W n c sz o : Nat) (q : Bool) (I : List Int) (h2 : b ≤ 64) (h3 : 1 ≤ p) (h4 : p ≤ 32) (hW : W ≤ 680000) (hsz : sz = p * 68) (h : n = W + 2 * b) (hI : I.length = n) (hB : BytF I W) (j : Nat) (hj : j < b) (ho : (j : Int) * sz = (o : Int)) (ho2 : ((j : Int) + 1) * sz = ((o + sz : Nat) : Int)) (ho3 : o + sz ≤ W) (hfl : fgI I W j = 3) (hxp : nxI I W j ≤ p) (hx0 : ¬ nxI I W j = 0) :
    WS Try.prog (frameN Try.f28 3) 1 [.c (k1 (k1 (k2 (k1 (k2 (k2 (k2 (k2 (k2 (k2 (kb Try.f28)))))))))))] (slt (ldSl b p n c sz q j)) (mem 0 (ldM I b p W j)) (LdQ I) := by
  have g1 : I[W + 2 * j]? = some (fgI I W j) := getD_get (by omega)
  have g2 : I[W + 2 * j + 1]? = some (nxI I W j) := getD_get (by omega)
  have hf := hB _ _ (by omega) g1
  have hn := hB _ _ (by omega) g2
  have hx1 : (W : Int) + 2 * (j : Int) = ((W + 2 * j : Nat) : Int) := by omega
  have hx2 : (W : Int) + 2 * (j : Int) + 1 = ((W + 2 * j + 1 : Nat) : Int) := by omega
  have hWI : (I.take W).length = W := by rw [List.length_take]; omega
  have hzp : o + sz - o = sz := by omega
  obtain ⟨x, hx⟩ : ∃ x : Nat, nxI I W j = x := ⟨(nxI I W j).toNat, by omega⟩
  rw [hx] at g2 hn
  have hzx : sz - x * 68 = (p - x) * 68 := by omega
  rw [hx] at hxp hx0
  rw [hfl] at g1
  simp only [ldSl, ldM]
  refine jq ?_
  refine jg ?_
  refine jDT ?_
  refine je ?_
  refine jq ?_
  refine WS.pcondT rfl rfl ?_
  refine WS.pskip rfl ?_
  refine jq ?_
  refine WS.pblock rfl ?_
  refine jq ?_
  refine jg ?_
  iterate 2 refine jo ?_
  refine je ?_
  refine jq ?_
  refine WS.pdraw (tb := tb) (by kernel_rfl) rfl (by kernel_rfl) (by kernel_rfl) ?_
  iterate 3 refine jp ?_
  refine jd ?_
  refine jr ?_
  iterate 2 refine jp ?_
  refine jw ?_
  refine WD.p (tb := tb) rfl rfl rfl rfl (evP_addV rfl rfl rfl (by assumption) (by simp only [lo]; omega) (by simp only [Am.hi]; omega)) ?_
  refine WD.pP (tb := tb) rfl rfl rfl rfl (evP_index rfl rfl rfl rfl rfl rfl (by omega)) (by simp only [Nat.zero_add, Nat.add_zero, Nat.reduceAdd, Nat.reduceMul, Nat.add_assoc, Nat.mul_one]; exact rfl) ?_
  refine WD.r (tb := tb) rfl rfl rfl rfl (evQ_R rfl (evR_load rfl rfl rfl rfl (cellsI_get g1))) ?_
  iterate 3 refine jp ?_
  refine jd ?_
  refine jr ?_
  iterate 2 refine jp ?_
  refine jw ?_
  refine WD.p (tb := tb) rfl rfl rfl rfl (evP_addV rfl rfl rfl (by assumption) (by simp only [lo]; omega) (by simp only [Am.hi]; omega)) ?_
  refine WD.p (tb := tb) rfl rfl rfl rfl (evP_addV rfl rfl rfl (by assumption) (by simp only [lo]; omega) (by simp only [Am.hi]; omega)) ?_
  refine WD.pP (tb := tb) rfl rfl rfl rfl (evP_index rfl rfl rfl rfl rfl rfl (by omega)) (by simp only [Nat.zero_add, Nat.add_zero, Nat.reduceAdd, Nat.reduceMul, Nat.add_assoc, Nat.mul_one]; exact rfl) ?_
  refine WD.r (tb := tb) rfl rfl rfl rfl (evQ_R rfl (evR_load rfl rfl rfl rfl (cellsI_get g2))) ?_
  refine jw ?_
  iterate 2 refine jp ?_
  refine WD.fin rfl ?_
  iterate 2 refine jq ?_
  refine jg ?_
  refine jo ?_
  refine jB false ?_
  iterate 3 refine jo ?_
  refine jDF ?_
  refine jo ?_
  refine je ?_
  refine WS.pcondF rfl rfl ?_
  refine WS.pskip rfl ?_
  refine jq ?_
  refine jg ?_
  iterate 3 refine jo ?_
  refine jB true ?_
  iterate 2 refine jo ?_
  refine jB true ?_
  refine WS.poA (tb := tb) rfl rfl rfl rfl rfl (by simp only [vcells, setL, ll, nl, nz, Nat.reduceAdd, Nat.reduceMul, Int.reduceToNat]; exact rfl) ?_
  refine jn ?_
  refine js ?_
  refine je ?_
  refine jq ?_
  refine jg ?_
  iterate 2 refine jo ?_
  refine jP ?_
  iterate 3 refine jo ?_
  refine WS.po (tb := tb) rfl rfl rfl rfl (step_P (evP_mulV rfl rfl rfl (by assumption) (by simp only [lo]; omega) (by simp only [Am.hi]; omega))) ?_
  refine jo ?_
  refine jW ?_
  refine jo ?_
  refine WS.po (tb := tb) rfl rfl rfl rfl (step_P (evP_mulV rfl rfl rfl (by assumption) (by simp only [lo]; omega) (by simp only [Am.hi]; omega))) ?_
  refine WS.poV (tb := tb) rfl rfl rfl rfl (step_P (evP_sliceC (a := (o)) (b := (o+sz)) rfl rfl rfl rfl rfl rfl (by first | exact .inl ⟨rfl, rfl⟩ | exact .inr ⟨_, _, rfl, rfl⟩ | exact .inr ⟨_, _, rfl, by first | assumption | omega⟩ | exact .inr ⟨_, _, rfl, (Int.toNat_of_nonneg (by omega)).symm⟩) (by first | exact .inl ⟨rfl, rfl⟩ | exact .inr ⟨_, _, rfl, rfl⟩ | exact .inr ⟨_, _, rfl, by first | assumption | omega⟩ | exact .inr ⟨_, _, rfl, (Int.toNat_of_nonneg (by omega)).symm⟩) (by omega) (by omega) (by omega))) (by simp only [hzp, Nat.mul_one, Nat.zero_add]; exact rfl) ?_
  refine jo ?_
  refine je ?_
  refine jq ?_
  refine WS.pblock rfl ?_
  iterate 2 refine jq ?_
  refine jg ?_
  refine jP ?_
  iterate 3 refine jo ?_
  refine jDT ?_
  refine jo ?_
  iterate 3 refine jN ?_
  iterate 3 refine jo ?_
  refine je ?_
  refine WS.pcondT rfl rfl ?_
  refine WS.pskip rfl ?_
  refine WS.pcondT rfl rfl ?_
  refine jq ?_
  refine jg ?_
  iterate 2 refine jo ?_
  refine je ?_
  refine WS.pret rfl ?_
  exact ⟨rfl, _, rfl, _, rfl, [0], [some ⟨cellsR (rwI .u8) I, 5, false⟩], .tup [.p none, .i .i64 11], ⟨rfl, rfl, (by simp [jVb, jOb, jMb, mapL_cellsR, okL_cellsR, ldM]), rfl⟩, rfl, by simp [okV, okL], rfl, rfl⟩
theorem ld_big (b p W n c sz o : Nat) (q : Bool) (I : List Int) (h2 : b ≤ 64) (h3 : 1 ≤ p) (h4 : p ≤ 32) (hW : W ≤ 680000) (hsz : sz = p * 68) (h : n = W + 2 * b) (hI : I.length = n) (hB : BytF I W) (j : Nat) (hj : j < b) (ho : (j : Int) * sz = (o : Int)) (ho2 : ((j : Int) + 1) * sz = ((o + sz : Nat) : Int)) (ho3 : o + sz ≤ W) (hfl : ¬ fgI I W j ≤ 3) :
    WS Try.prog (frameN Try.f28 3) 1 [.c (k1 (k1 (k2 (k1 (k2 (k2 (k2 (k2 (k2 (k2 (kb Try.f28)))))))))))] (slt (ldSl b p n c sz q j)) (mem 0 (ldM I b p W j)) (LdQ I) := by
  have g1 : I[W + 2 * j]? = some (fgI I W j) := getD_get (by omega)
  have g2 : I[W + 2 * j + 1]? = some (nxI I W j) := getD_get (by omega)
  have hf := hB _ _ (by omega) g1
  have hn := hB _ _ (by omega) g2
  have hx1 : (W : Int) + 2 * (j : Int) = ((W + 2 * j : Nat) : Int) := by omega
  have hx2 : (W : Int) + 2 * (j : Int) + 1 = ((W + 2 * j + 1 : Nat) : Int) := by omega
  have hWI : (I.take W).length = W := by rw [List.length_take]; omega
  have hzp : o + sz - o = sz := by omega
  obtain ⟨x, hx⟩ : ∃ x : Nat, nxI I W j = x := ⟨(nxI I W j).toNat, by omega⟩
  rw [hx] at g2 hn
  have hzx : sz - x * 68 = (p - x) * 68 := by omega
  simp only [ldSl, ldM]
  refine jq ?_
  refine jg ?_
  refine jDT ?_
  refine je ?_
  refine jq ?_
  refine WS.pcondT rfl rfl ?_
  refine WS.pskip rfl ?_
  refine jq ?_
  refine WS.pblock rfl ?_
  refine jq ?_
  refine jg ?_
  iterate 2 refine jo ?_
  refine je ?_
  refine jq ?_
  refine WS.pdraw (tb := tb) (by kernel_rfl) rfl (by kernel_rfl) (by kernel_rfl) ?_
  iterate 3 refine jp ?_
  refine jd ?_
  refine jr ?_
  iterate 2 refine jp ?_
  refine jw ?_
  refine WD.p (tb := tb) rfl rfl rfl rfl (evP_addV rfl rfl rfl (by assumption) (by simp only [lo]; omega) (by simp only [Am.hi]; omega)) ?_
  refine WD.pP (tb := tb) rfl rfl rfl rfl (evP_index rfl rfl rfl rfl rfl rfl (by omega)) (by simp only [Nat.zero_add, Nat.add_zero, Nat.reduceAdd, Nat.reduceMul, Nat.add_assoc, Nat.mul_one]; exact rfl) ?_
  refine WD.r (tb := tb) rfl rfl rfl rfl (evQ_R rfl (evR_load rfl rfl rfl rfl (cellsI_get g1))) ?_
  iterate 3 refine jp ?_
  refine jd ?_
  refine jr ?_
  iterate 2 refine jp ?_
  refine jw ?_
  refine WD.p (tb := tb) rfl rfl rfl rfl (evP_addV rfl rfl rfl (by assumption) (by simp only [lo]; omega) (by simp only [Am.hi]; omega)) ?_
  refine WD.p (tb := tb) rfl rfl rfl rfl (evP_addV rfl rfl rfl (by assumption) (by simp only [lo]; omega) (by simp only [Am.hi]; omega)) ?_
  refine WD.pP (tb := tb) rfl rfl rfl rfl (evP_index rfl rfl rfl rfl rfl rfl (by omega)) (by simp only [Nat.zero_add, Nat.add_zero, Nat.reduceAdd, Nat.reduceMul, Nat.add_assoc, Nat.mul_one]; exact rfl) ?_
  refine WD.r (tb := tb) rfl rfl rfl rfl (evQ_R rfl (evR_load rfl rfl rfl rfl (cellsI_get g2))) ?_
  refine jw ?_
  iterate 2 refine jp ?_
  refine WD.fin rfl ?_
  iterate 2 refine jq ?_
  refine jg ?_
  refine jo ?_
  refine jDT ?_
  refine jo ?_
  iterate 3 refine jN ?_
  refine jo ?_
  refine je ?_
  refine WS.pcondT rfl rfl ?_
  refine jq ?_
  refine jg ?_
  iterate 2 refine jo ?_
  refine je ?_
  refine WS.pret rfl ?_
  exact ⟨rfl, _, rfl, _, rfl, [0], [some ⟨cellsR (rwI .u8) I, 5, false⟩], .tup [.p none, .i .i64 11], ⟨rfl, rfl, (by simp [jVb, jOb, jMb, mapL_cellsR, okL_cellsR, ldM]), rfl⟩, rfl, by simp [okV, okL], rfl, rfl⟩
theorem ld_far (b p W n c sz o : Nat) (q : Bool) (I : List Int) (h2 : b ≤ 64) (h3 : 1 ≤ p) (h4 : p ≤ 32) (hW : W ≤ 680000) (hsz : sz = p * 68) (h : n = W + 2 * b) (hI : I.length = n) (hB : BytF I W) (j : Nat) (hj : j < b) (ho : (j : Int) * sz = (o : Int)) (ho2 : ((j : Int) + 1) * sz = ((o + sz : Nat) : Int)) (ho3 : o + sz ≤ W) (hfl : fgI I W j ≤ 3) (hxp : ¬ nxI I W j ≤ p) :
    WS Try.prog (frameN Try.f28 3) 1 [.c (k1 (k1 (k2 (k1 (k2 (k2 (k2 (k2 (k2 (k2 (kb Try.f28)))))))))))] (slt (ldSl b p n c sz q j)) (mem 0 (ldM I b p W j)) (LdQ I) := by
  have g1 : I[W + 2 * j]? = some (fgI I W j) := getD_get (by omega)
  have g2 : I[W + 2 * j + 1]? = some (nxI I W j) := getD_get (by omega)
  have hf := hB _ _ (by omega) g1
  have hn := hB _ _ (by omega) g2
  have hx1 : (W : Int) + 2 * (j : Int) = ((W + 2 * j : Nat) : Int) := by omega
  have hx2 : (W : Int) + 2 * (j : Int) + 1 = ((W + 2 * j + 1 : Nat) : Int) := by omega
  have hWI : (I.take W).length = W := by rw [List.length_take]; omega
  have hzp : o + sz - o = sz := by omega
  obtain ⟨x, hx⟩ : ∃ x : Nat, nxI I W j = x := ⟨(nxI I W j).toNat, by omega⟩
  rw [hx] at g2 hn
  have hzx : sz - x * 68 = (p - x) * 68 := by omega
  rw [hx] at hxp
  simp only [ldSl, ldM]
  refine jq ?_
  refine jg ?_
  refine jDT ?_
  refine je ?_
  refine jq ?_
  refine WS.pcondT rfl rfl ?_
  refine WS.pskip rfl ?_
  refine jq ?_
  refine WS.pblock rfl ?_
  refine jq ?_
  refine jg ?_
  iterate 2 refine jo ?_
  refine je ?_
  refine jq ?_
  refine WS.pdraw (tb := tb) (by kernel_rfl) rfl (by kernel_rfl) (by kernel_rfl) ?_
  iterate 3 refine jp ?_
  refine jd ?_
  refine jr ?_
  iterate 2 refine jp ?_
  refine jw ?_
  refine WD.p (tb := tb) rfl rfl rfl rfl (evP_addV rfl rfl rfl (by assumption) (by simp only [lo]; omega) (by simp only [Am.hi]; omega)) ?_
  refine WD.pP (tb := tb) rfl rfl rfl rfl (evP_index rfl rfl rfl rfl rfl rfl (by omega)) (by simp only [Nat.zero_add, Nat.add_zero, Nat.reduceAdd, Nat.reduceMul, Nat.add_assoc, Nat.mul_one]; exact rfl) ?_
  refine WD.r (tb := tb) rfl rfl rfl rfl (evQ_R rfl (evR_load rfl rfl rfl rfl (cellsI_get g1))) ?_
  iterate 3 refine jp ?_
  refine jd ?_
  refine jr ?_
  iterate 2 refine jp ?_
  refine jw ?_
  refine WD.p (tb := tb) rfl rfl rfl rfl (evP_addV rfl rfl rfl (by assumption) (by simp only [lo]; omega) (by simp only [Am.hi]; omega)) ?_
  refine WD.p (tb := tb) rfl rfl rfl rfl (evP_addV rfl rfl rfl (by assumption) (by simp only [lo]; omega) (by simp only [Am.hi]; omega)) ?_
  refine WD.pP (tb := tb) rfl rfl rfl rfl (evP_index rfl rfl rfl rfl rfl rfl (by omega)) (by simp only [Nat.zero_add, Nat.add_zero, Nat.reduceAdd, Nat.reduceMul, Nat.add_assoc, Nat.mul_one]; exact rfl) ?_
  refine WD.r (tb := tb) rfl rfl rfl rfl (evQ_R rfl (evR_load rfl rfl rfl rfl (cellsI_get g2))) ?_
  refine jw ?_
  iterate 2 refine jp ?_
  refine WD.fin rfl ?_
  iterate 2 refine jq ?_
  refine jg ?_
  refine jo ?_
  refine jDF ?_
  iterate 3 refine jo ?_
  refine jDT ?_
  refine jo ?_
  refine je ?_
  refine WS.pcondT rfl rfl ?_
  refine jq ?_
  refine jg ?_
  iterate 2 refine jo ?_
  refine je ?_
  refine WS.pret rfl ?_
  exact ⟨rfl, _, rfl, _, rfl, [0], [some ⟨cellsR (rwI .u8) I, 5, false⟩], .tup [.p none, .i .i64 11], ⟨rfl, rfl, (by simp [jVb, jOb, jMb, mapL_cellsR, okL_cellsR, ldM]), rfl⟩, rfl, by simp [okV, okL], rfl, rfl⟩
end Go.Proofs.Ytmkolibmadbenaa.Am

