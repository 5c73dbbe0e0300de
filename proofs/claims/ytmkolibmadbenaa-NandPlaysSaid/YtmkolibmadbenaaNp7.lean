/- Functions of the flash, walked. Conditions: those of each theorem. -/
import Derived.Test.YtmkolibmadbenaaAm5
import Derived.Test.YtmkolibmadbenaaNp6
namespace Go.Proofs.Ytmkolibmadbenaa.Am
open Go.Proofs
set_option maxRecDepth 1000000
set_option maxHeartbeats 4000000
set_option linter.unusedSimpArgs false
set_option linter.unusedVariables false
theorem pb_erase (b p np : Nat) (l : List Act) (c i : Nat) (x : NS) (op a short fill : Int) (H : InvP np l.length (i, x)) (hl : l.length ≤ 40) (hx : l[i]? = some ⟨op, a, short, fill⟩) (hg : goodA ⟨op, a, short, fill⟩) (ho : op = 1) :
    WS Try.prog (frameN Try.f4 3) 1 [.c (k1 (k1 (k2 (k1 (k2 (k2 (k2 (k2 (k2 (k2 (kb Try.f4)))))))))))] (slt (SSp b p l c (i, x))) (mem 0 (PM l x)) (PostP b p np l c (i, x)) := by
  have hi : i < l.length := (List.getElem?_eq_some_iff.1 hx).1
  obtain ⟨hle, H, hrd, hpr, her⟩ := H
  dsimp only at H hrd hpr her
  have hga := wf64 hg.2.1
  dsimp only at hga
  subst ho
  obtain ⟨H', K', q1, q2, q3⟩ := esS_ok H a (by omega)
  have E1 := erase_any x np H a
  have E2 := rerase_any x np H a
  have I := is_walk (esS x a) np a H'
  generalize hy : esS x a = y at *
  simp only [isM, ndM, rfM, rfB, List.cons_append, List.nil_append] at I E1 E2
  have rest : ∀ Q : Ex → T V → LH → Prop, ∀ k : List Fm, WS Try.prog (frameN Try.f4 3) 1 k (slt [(126, .b false), (0, .i .i64 b), (1, .i .i64 p), (2, .sl (some (0,0)) l.length c false), (7, .p (some (3,0))), (9, .p (some (8,0))), (10, .i .i64 i), (11, .p (some (9,0)))]) (mem 0 (PM l y ++ [some ⟨[.i .i64 1, .i .i64 a, .i .i64 short, .i .u8 fill], 38, true⟩])) Q → True := fun _ _ _ => trivial
  simp only [SSp, PM, ndB, rfB, List.cons_append, List.nil_append]
  iterate 2 refine jq ?_
  refine jg ?_
  iterate 3 refine jo ?_
  refine jDT ?_
  refine je ?_
  refine WS.pcondT rfl rfl ?_
  refine WS.pskip rfl ?_
  refine jq ?_
  refine WS.pblock rfl ?_
  refine jq ?_
  refine jg ?_
  iterate 2 refine jo ?_
  refine jI ?_
  refine WS.poA (tb := tb) rfl rfl rfl rfl (step_R rfl (evR_loads rfl rfl rfl rfl rfl (by exact (cellsR_part0 (R := rwAct) hx (by exact Nat.le_of_ble_eq_true rfl))) (by exact rfl))) (by simp only [List.drop_zero, List.drop_succ_cons, List.take_succ_cons, List.take_zero, rwBk, rwAct]; exact rfl) ?_
  refine jn ?_
  refine js ?_
  refine je ?_
  iterate 2 refine jq ?_
  refine jg ?_
  refine jP ?_
  refine jo ?_
  refine je ?_
  refine WS.pblock rfl ?_
  refine jq ?_
  refine jg ?_
  refine jB false ?_
  refine jo ?_
  refine je ?_
  refine WS.pcondF rfl rfl ?_
  refine jq ?_
  refine jg ?_
  refine jB true ?_
  refine jo ?_
  refine je ?_
  refine WS.pcondT rfl rfl ?_
  refine jq ?_
  have R2 : ∀ k : List Fm, WS Try.prog (frameN Try.f4 3) 1 k (slt [(126, .b false), (0, .i .i64 b), (1, .i .i64 p), (2, .sl (some (0,0)) l.length c false), (7, .p (some (3,0))), (9, .p (some (8,0))), (10, .i .i64 i), (11, .p (some (9,0)))]) (mem 0 (PM l y ++ [some ⟨[.i .i64 1, .i .i64 a, .i .i64 short, .i .u8 fill], 38, true⟩])) (PostP b p np l c (i, x)) → True := fun _ _ => trivial
  clear rest R2
  refine WS.panyN 9 rfl (by kernel_rfl) rfl ?_
  refine WA.p (tb := tb) 0 rfl rfl (by kernel_rfl) (by kernel_rfl) (by kernel_rfl) rfl rfl rfl ?_
  refine WA.p (tb := tb) 1 rfl rfl (by kernel_rfl) (by kernel_rfl) (by kernel_rfl) rfl rfl rfl ?_
  refine WA.p (tb := tb) 4 rfl rfl (by kernel_rfl) (by kernel_rfl) (by kernel_rfl) rfl rfl rfl ?_
  refine WA.p (tb := tb) 5 rfl rfl (by kernel_rfl) (by kernel_rfl) (by kernel_rfl) rfl rfl rfl ?_
  have conv : ∀ k : List Fm, ∀ S : List (Nat × V), ∀ M : List (Option Blk), ∀ f : Nat, ∀ A : Array Bool, ∀ cc : Code, Region.ready .any (kops cc) A = [] → SeenBy [0,1,2,3,4,5,6,7,8,9] 1 S M [(126, .b false), (0, .i .i64 b), (1, .i .i64 p), (2, .sl (some (0,0)) l.length c false), (7, .p (some (3,0))), (9, .p (some (8,0))), (10, .i .i64 i), (11, .p (some (9,0)))] (PM l y ++ [some ⟨[.i .i64 1, .i .i64 a, .i .i64 short, .i .u8 fill], 38, true⟩]) → WS Try.prog (frameN Try.f4 3) 1 k (slt [(126, .b false), (0, .i .i64 b), (1, .i .i64 p), (2, .sl (some (0,0)) l.length c false), (7, .p (some (3,0))), (9, .p (some (8,0))), (10, .i .i64 i), (11, .p (some (9,0)))]) (mem 0 (PM l y ++ [some ⟨[.i .i64 1, .i .i64 a, .i .i64 short, .i .u8 fill], 38, true⟩])) (PostP b p np l c (i, x)) → WA Try.prog (frameN Try.f4 3) 1 cc f A k (slt S) (mem 0 M) (PostP b p np l c (i, x)) :=
    fun k S M f A cc hr V w => WA.seen _ hr V w
  refine WA.o2 2 6 (by kernel_rfl) ?_ ?_
  · refine WO.step (tb := tb) rfl rfl rfl rfl rfl ?_
    refine WA.o2 3 6 (by kernel_rfl) ?_ ?_
    · refine WO.callM (tb := tb) [1,2,3] E1 rfl rfl rfl rfl rfl (by (try simp only [mapL, mapV, ll]) <;> exact rfl) (by simp [okL, okV, ndM, rfM]; fail_if_success exfalso) rfl (by simp [embP, okL, okV, mapL, mapV, mem_next, mem_get, mem_ro, mapL_cellsR, okL_cellsR, ndM, rfM]; fail_if_success exfalso) rfl ?_; rintro _ _ ⟨rfl, rfl⟩ -; simp only [jPg, jMb, ll, Nat.reduceAdd, Nat.reduceLT, Nat.zero_add, if_true, if_false, Nat.reduceSub, reduceIte, mapL_cellsR, Nat.lt_irrefl, Nat.not_lt_zero, Nat.zero_lt_succ, Nat.lt_add_one]
      refine WA.o1 6 (by kernel_rfl) ?_
      refine WO.step (tb := tb) rfl rfl rfl rfl rfl ?_
      refine WA.o1 7 (by kernel_rfl) ?_
      refine WO.callM (tb := tb) [4,5,6,7,8] E2 rfl rfl rfl rfl rfl (by (try simp only [mapL, mapV, ll]) <;> exact rfl) (by simp [okL, okV, ndM, rfM]; fail_if_success exfalso) rfl (by simp [embP, okL, okV, mapL, mapV, mem_next, mem_get, mem_ro, mapL_cellsR, okL_cellsR, ndM, rfM]; fail_if_success exfalso) rfl ?_; rintro _ _ ⟨rfl, rfl⟩ -; simp only [jPg, jMb, ll, Nat.reduceAdd, Nat.reduceLT, Nat.zero_add, if_true, if_false, Nat.reduceSub, reduceIte, mapL_cellsR, Nat.lt_irrefl, Nat.not_lt_zero, Nat.zero_lt_succ, Nat.lt_add_one]
      refine WA.p (tb := tb) 8 rfl rfl (by kernel_rfl) (by kernel_rfl) (by kernel_rfl) rfl rfl rfl ?_
      refine conv _ _ _ _ _ _ (by kernel_rfl) (jSb (by simp [jVb, jOb, jMb, mapL_cellsR, okL_cellsR, PM, ndB, rfB, bne_self_eq_false]) (by simp only [jSl, jOb, jMb, Nat.reduceAdd, Nat.reduceLT, PM, ndB, rfB, bne_self_eq_false] <;> exact jClo)) ?_
      simp only [PM, ndB, rfB, List.cons_append, List.nil_append]
      refine WS.pcondF rfl rfl ?_
      refine WS.pskip rfl ?_
      refine jq ?_
      refine jg ?_
      iterate 2 refine jo ?_
      refine jP ?_
      refine jo ?_
      refine jc [1,2,3,4,5,6,7,8] I (by simp [jOb]) (by simp [jEb, jOb, jMb, mapL_cellsR, okL_cellsR]) ?_; rintro _ _ ⟨rfl, rfl⟩ -; simp only [jPg, jMb, ll, Nat.reduceAdd, Nat.reduceLT, Nat.zero_add, if_true, if_false, Nat.reduceSub, reduceIte, mapL_cellsR, Nat.lt_irrefl, Nat.not_lt_zero, Nat.zero_lt_succ, Nat.lt_add_one]
      refine jB false ?_
      refine je ?_
      refine WS.pcondF rfl rfl ?_
      refine WS.pskip rfl ?_
      refine jg ?_
      refine jo ?_
      refine jW ?_
      refine jo ?_
      refine je ?_
      refine WS.nil ?_
      exact ⟨(i + 1, rdS y np a), inv_next a hi hl H' (by omega) (by omega) (by omega), by simp only; omega, (jSn [0,1,2,3,4,5,6,7,8] (by simp [jVb, jOb, jMb, mapL_cellsR, okL_cellsR, SSp, PM, ndB, rfB]) (by simp only [jSl, jOb, jMb, Nat.reduceAdd, Nat.reduceLT, SSp, PM, ndB, rfB] <;> exact jClo))⟩
    · refine WO.step (tb := tb) rfl rfl rfl rfl rfl ?_
      refine WA.o1 3 (by kernel_rfl) ?_
      refine WO.callM (tb := tb) [1,2,3] E1 rfl rfl rfl rfl rfl (by (try simp only [mapL, mapV, ll]) <;> exact rfl) (by simp [okL, okV, ndM, rfM]; fail_if_success exfalso) rfl (by simp [embP, okL, okV, mapL, mapV, mem_next, mem_get, mem_ro, mapL_cellsR, okL_cellsR, ndM, rfM]; fail_if_success exfalso) rfl ?_; rintro _ _ ⟨rfl, rfl⟩ -; simp only [jPg, jMb, ll, Nat.reduceAdd, Nat.reduceLT, Nat.zero_add, if_true, if_false, Nat.reduceSub, reduceIte, mapL_cellsR, Nat.lt_irrefl, Nat.not_lt_zero, Nat.zero_lt_succ, Nat.lt_add_one]
      refine WA.o1 7 (by kernel_rfl) ?_
      refine WO.callM (tb := tb) [4,5,6,7,8] E2 rfl rfl rfl rfl rfl (by (try simp only [mapL, mapV, ll]) <;> exact rfl) (by simp [okL, okV, ndM, rfM]; fail_if_success exfalso) rfl (by simp [embP, okL, okV, mapL, mapV, mem_next, mem_get, mem_ro, mapL_cellsR, okL_cellsR, ndM, rfM]; fail_if_success exfalso) rfl ?_; rintro _ _ ⟨rfl, rfl⟩ -; simp only [jPg, jMb, ll, Nat.reduceAdd, Nat.reduceLT, Nat.zero_add, if_true, if_false, Nat.reduceSub, reduceIte, mapL_cellsR, Nat.lt_irrefl, Nat.not_lt_zero, Nat.zero_lt_succ, Nat.lt_add_one]
      refine WA.p (tb := tb) 8 rfl rfl (by kernel_rfl) (by kernel_rfl) (by kernel_rfl) rfl rfl rfl ?_
      refine conv _ _ _ _ _ _ (by kernel_rfl) (jSb (by simp [jVb, jOb, jMb, mapL_cellsR, okL_cellsR, PM, ndB, rfB, bne_self_eq_false]) (by simp only [jSl, jOb, jMb, Nat.reduceAdd, Nat.reduceLT, PM, ndB, rfB, bne_self_eq_false] <;> exact jClo)) ?_
      simp only [PM, ndB, rfB, List.cons_append, List.nil_append]
      refine WS.pcondF rfl rfl ?_
      refine WS.pskip rfl ?_
      refine jq ?_
      refine jg ?_
      iterate 2 refine jo ?_
      refine jP ?_
      refine jo ?_
      refine jc [1,2,3,4,5,6,7,8] I (by simp [jOb]) (by simp [jEb, jOb, jMb, mapL_cellsR, okL_cellsR]) ?_; rintro _ _ ⟨rfl, rfl⟩ -; simp only [jPg, jMb, ll, Nat.reduceAdd, Nat.reduceLT, Nat.zero_add, if_true, if_false, Nat.reduceSub, reduceIte, mapL_cellsR, Nat.lt_irrefl, Nat.not_lt_zero, Nat.zero_lt_succ, Nat.lt_add_one]
      refine jB false ?_
      refine je ?_
      refine WS.pcondF rfl rfl ?_
      refine WS.pskip rfl ?_
      refine jg ?_
      refine jo ?_
      refine jW ?_
      refine jo ?_
      refine je ?_
      refine WS.nil ?_
      exact ⟨(i + 1, rdS y np a), inv_next a hi hl H' (by omega) (by omega) (by omega), by simp only; omega, (jSn [0,1,2,3,4,5,6,7,8] (by simp [jVb, jOb, jMb, mapL_cellsR, okL_cellsR, SSp, PM, ndB, rfB]) (by simp only [jSl, jOb, jMb, Nat.reduceAdd, Nat.reduceLT, SSp, PM, ndB, rfB] <;> exact jClo))⟩
  · refine WO.step (tb := tb) rfl rfl rfl rfl rfl ?_
    refine WA.o1 2 (by kernel_rfl) ?_
    refine WO.step (tb := tb) rfl rfl rfl rfl rfl ?_
    refine WA.o1 3 (by kernel_rfl) ?_
    refine WO.callM (tb := tb) [1,2,3] E1 rfl rfl rfl rfl rfl (by (try simp only [mapL, mapV, ll]) <;> exact rfl) (by simp [okL, okV, ndM, rfM]; fail_if_success exfalso) rfl (by simp [embP, okL, okV, mapL, mapV, mem_next, mem_get, mem_ro, mapL_cellsR, okL_cellsR, ndM, rfM]; fail_if_success exfalso) rfl ?_; rintro _ _ ⟨rfl, rfl⟩ -; simp only [jPg, jMb, ll, Nat.reduceAdd, Nat.reduceLT, Nat.zero_add, if_true, if_false, Nat.reduceSub, reduceIte, mapL_cellsR, Nat.lt_irrefl, Nat.not_lt_zero, Nat.zero_lt_succ, Nat.lt_add_one]
    refine WA.o1 7 (by kernel_rfl) ?_
    refine WO.callM (tb := tb) [4,5,6,7,8] E2 rfl rfl rfl rfl rfl (by (try simp only [mapL, mapV, ll]) <;> exact rfl) (by simp [okL, okV, ndM, rfM]; fail_if_success exfalso) rfl (by simp [embP, okL, okV, mapL, mapV, mem_next, mem_get, mem_ro, mapL_cellsR, okL_cellsR, ndM, rfM]; fail_if_success exfalso) rfl ?_; rintro _ _ ⟨rfl, rfl⟩ -; simp only [jPg, jMb, ll, Nat.reduceAdd, Nat.reduceLT, Nat.zero_add, if_true, if_false, Nat.reduceSub, reduceIte, mapL_cellsR, Nat.lt_irrefl, Nat.not_lt_zero, Nat.zero_lt_succ, Nat.lt_add_one]
    refine WA.p (tb := tb) 8 rfl rfl (by kernel_rfl) (by kernel_rfl) (by kernel_rfl) rfl rfl rfl ?_
    refine conv _ _ _ _ _ _ (by kernel_rfl) (jSb (by simp [jVb, jOb, jMb, mapL_cellsR, okL_cellsR, PM, ndB, rfB, bne_self_eq_false]) (by simp only [jSl, jOb, jMb, Nat.reduceAdd, Nat.reduceLT, PM, ndB, rfB, bne_self_eq_false] <;> exact jClo)) ?_
    simp only [PM, ndB, rfB, List.cons_append, List.nil_append]
    refine WS.pcondF rfl rfl ?_
    refine WS.pskip rfl ?_
    refine jq ?_
    refine jg ?_
    iterate 2 refine jo ?_
    refine jP ?_
    refine jo ?_
    refine jc [1,2,3,4,5,6,7,8] I (by simp [jOb]) (by simp [jEb, jOb, jMb, mapL_cellsR, okL_cellsR]) ?_; rintro _ _ ⟨rfl, rfl⟩ -; simp only [jPg, jMb, ll, Nat.reduceAdd, Nat.reduceLT, Nat.zero_add, if_true, if_false, Nat.reduceSub, reduceIte, mapL_cellsR, Nat.lt_irrefl, Nat.not_lt_zero, Nat.zero_lt_succ, Nat.lt_add_one]
    refine jB false ?_
    refine je ?_
    refine WS.pcondF rfl rfl ?_
    refine WS.pskip rfl ?_
    refine jg ?_
    refine jo ?_
    refine jW ?_
    refine jo ?_
    refine je ?_
    refine WS.nil ?_
    exact ⟨(i + 1, rdS y np a), inv_next a hi hl H' (by omega) (by omega) (by omega), by simp only; omega, (jSn [0,1,2,3,4,5,6,7,8] (by simp [jVb, jOb, jMb, mapL_cellsR, okL_cellsR, SSp, PM, ndB, rfB]) (by simp only [jSl, jOb, jMb, Nat.reduceAdd, Nat.reduceLT, SSp, PM, ndB, rfB] <;> exact jClo))⟩
end Go.Proofs.Ytmkolibmadbenaa.Am

