/- Functions of the tree and of the law TreePlays, walked. Conditions: those of each theorem. -/
import Derived.Test.YtpogfelbimcglaaTp11
namespace Go.Proofs.Ytpogfelbimcglaa.Am
open Go.Proofs
set_option maxRecDepth 1000000
set_option maxHeartbeats 4000000
set_option linter.unusedSimpArgs false
set_option linter.unusedVariables false
theorem at_walkC (L : List Rn) (c : Nat) (q : Bool) (k : Int) (hn : L.length ≤ 600) : FM Try.prog 17 [.sl (some (0,0)) L.length c q, .i .i64 k] (roW L) (fun v M' => v = .i .i64 (atL k L 0) ∧ M' = roW L) := by
  refine FM.pbody (tb := tb) (fn := Try.f17) rfl rfl ?_
  simp only [argS, Nat.reduceAdd, roW, List.length_cons, List.length_nil]
  refine jq ?_
  refine jg ?_
  refine jo ?_
  refine je ?_
  iterate 2 refine jq ?_
  refine jg ?_
  refine jo ?_
  refine je ?_
  refine WS.pblock rfl ?_
  refine WS.ploopI (σ := Nat) (τ := Unit) (fun i => [(0, .sl (some (0,0)) L.length c q), (1, .i .i64 k), (4, .i .i64 0), (5, .i .i64 i)]) (fun _ => roW L) (fun i => i ≤ L.length ∧ atL k (L.drop i) i = atL k L 0) (fun i => L.length - i)
    (fun _ => []) (fun _ => roW L) (fun _ => atL k L 0 = -1) 0 [0] 0 rfl ⟨Nat.zero_le _, rfl⟩ (jSb (by simp [jVb, jOb, jMb, mapL_cellsR, okL_cellsR, roW]) (by simp only [jSl, jOb, jMb, Nat.reduceAdd, Nat.reduceLT, roW] <;> exact jClo)) rfl ?_ ?_
  · rintro i ⟨hi, hA⟩
    simp only [roW]
    by_cases h : i < L.length
    · obtain ⟨x, hx⟩ : ∃ x, L[i]? = some x := ⟨_, List.getElem?_eq_getElem h⟩
      have e : L.drop i = x :: L.drop (i + 1) := by
        rw [List.drop_eq_getElem_cons h]
        have := List.getElem?_eq_getElem h
        rw [hx] at this
        rw [← Option.some.inj this]
      rw [e] at hA
      simp only [atL] at hA
      by_cases hk : x.a = k
      · rw [if_pos hk] at hA
        iterate 2 refine jq ?_
        refine jg ?_
        iterate 3 refine jo ?_
        refine jDT ?_
        refine je ?_
        refine WS.pcondT rfl rfl ?_
        refine WS.pskip rfl ?_
        refine jq ?_
        refine WS.pblock rfl ?_
        refine jq ?_
        refine jg ?_
        iterate 2 refine jo ?_
        refine jI ?_
        refine jP ?_
        refine WS.po (tb := tb) rfl rfl rfl rfl (step_R rfl (evR_load rfl rfl rfl rfl (cellsR_get0 hx rfl))) ?_
        refine jo ?_
        refine jDT ?_
        refine je ?_
        refine WS.pcondT rfl rfl ?_
        refine jq ?_
        refine jg ?_
        iterate 2 refine jo ?_
        refine je ?_
        refine WS.pret rfl ?_
        exact ⟨by simp, _, rfl, _, rfl, by rw [hA], by simp [roW]⟩
      · rw [if_neg hk] at hA
        iterate 2 refine jq ?_
        refine jg ?_
        iterate 3 refine jo ?_
        refine jDT ?_
        refine je ?_
        refine WS.pcondT rfl rfl ?_
        refine WS.pskip rfl ?_
        refine jq ?_
        refine WS.pblock rfl ?_
        refine jq ?_
        refine jg ?_
        iterate 2 refine jo ?_
        refine jI ?_
        refine jP ?_
        refine WS.po (tb := tb) rfl rfl rfl rfl (step_R rfl (evR_load rfl rfl rfl rfl (cellsR_get0 hx rfl))) ?_
        refine jo ?_
        refine jDF ?_
        refine je ?_
        refine WS.pcondF rfl rfl ?_
        refine WS.pskip rfl ?_
        refine jg ?_
        refine jo ?_
        refine jW ?_
        refine jo ?_
        refine je ?_
        refine WS.nil ?_
        exact ⟨i + 1, ⟨by omega, hA⟩, by omega, (jSn [0] (by simp [jVb, jOb, jMb, mapL_cellsR, okL_cellsR, roW]) (by simp only [jSl, jOb, jMb, Nat.reduceAdd, Nat.reduceLT, roW] <;> exact jClo))⟩
    · obtain rfl : i = L.length := by omega
      rw [List.drop_length] at hA
      iterate 2 refine jq ?_
      refine jg ?_
      iterate 3 refine jo ?_
      refine jDF ?_
      refine je ?_
      refine WS.pcondF rfl rfl ?_
      refine WS.pout rfl rfl ?_
      exact ⟨rfl, (), hA.symm, (jSn [0] (by simp [jVb, jOb, jMb, mapL_cellsR, okL_cellsR, roW]) (by simp only [jSl, jOb, jMb, Nat.reduceAdd, Nat.reduceLT, roW] <;> exact jClo))⟩
  · rintro _ hJ
    simp only [roW]
    refine jq ?_
    refine jg ?_
    refine jo ?_
    refine je ?_
    refine WS.pret rfl ⟨.inr rfl, _, rfl, ?_⟩
    exact ⟨_, rfl, by rw [hJ], rfl⟩
theorem pl_delok_last (size : Nat) (l : List Act) (c i : Nat) (ask : Int) (s : TS) (op lba len phys : Int) (b : Bool) (H : TOk size s) (hl : l.length ≤ 120) (h1 : 1 ≤ size) (h2 : size ≤ 60) (hx : l[i]? = some ⟨op, lba, len, phys⟩) (ho : op = 1) (hg : (getL lba s.T.ino).isSome = true) (hrow : ∃ x t, runsT s.T = x :: t ∧ t.length + 1 = s.n) (h1n : s.n = 1) :
    WS Try.prog (frameN Try.f4 3) 1 [.c (k1 (k1 (k2 (k1 (k2 (k2 (k2 (k2 (k2 (k2 (k2 (kb Try.f4))))))))))))] (slt (SSp size l c ask (i, s, b))) (mem 0 (MMp l (i, s, b))) (PostP size l c ask (i, s, b)) := by
  have hi : i < l.length := (List.getElem?_eq_some_iff.1 hx).1
  have hle := H.le
  have hL := H.len
  subst ho
  have D := delete_ok H (by omega) hg
  obtain ⟨H', hn'⟩ := delS_ok H hg
  obtain ⟨j, x, hk, hjx, hxa⟩ := atL_yes hg
  have hjn : j < s.n := by have := (List.getElem?_eq_some_iff.1 hjx).1; rw [runsT_len] at this; exact this
  obtain rfl : j = 0 := by omega
  obtain ⟨x0, t0, hr0, ht0⟩ := hrow
  have hT' : (delS s lba).T = .lf := by
    cases hq : (delS s lba).T with
    | lf => rfl
    | nd id l a b c r => rw [TS.n, hq, ids_nd, List.length_append, List.length_cons] at hn'; omega
  have hn0 := n_lf hT'
  have hR := runs_lf hT'
  have A1 := asked_some lba H' h2 hT'
  have A2 := asked_some ask H' h2 hT'
  have B := whole_some H' h2 hT'
  generalize delS s lba = u at *
  have ht1 : t0.length + 1 = 1 := ht0.trans h1n
  simp only [SSp, MMp, MP, wV, bW, hr0, ht1]
  refine WS.close 10 rfl (fun e => ?_)
  have K := at_walkC (runsT s.T) (1 + e) false lba (by rw [runsT_len]; simp only [TS.n] at hle; omega)
  rw [hk] at K
  rw [runsT_len, show s.T.ids.length = 1 from h1n] at K
  simp only [roW, hr0] at K
  by_cases he : e = 0
  · refine WS.pseq rfl ?_
    refine jq ?_
    refine jg ?_
    iterate 3 refine jo ?_
    refine jDT ?_
    refine je ?_
    refine WS.pcondT rfl rfl ?_
    refine WS.pskip rfl ?_
    refine jq ?_
    refine WS.pblock rfl ?_
    refine jq ?_
    refine jg ?_
    iterate 2 refine jo ?_
    refine jI ?_
    refine WS.poA (tb := tb) rfl rfl rfl rfl (step_R rfl (evR_loads rfl rfl rfl rfl rfl (by exact (cellsR_part0 (R := rwAct) hx (by exact Nat.le_of_ble_eq_true rfl))) (by exact rfl))) (by simp only [List.drop_zero, List.drop_succ_cons, List.take_succ_cons, List.take_zero, rwPl, rwRn, rwVw, rwAct]; exact rfl) ?_
    refine jn ?_
    refine js ?_
    refine je ?_
    refine jq ?_
    refine jg ?_
    refine jP ?_
    refine jo ?_
    refine jP ?_
    refine jo ?_
    refine jP ?_
    refine jo ?_
    refine WS.poA (tb := tb) rfl rfl rfl rfl rfl (by simp only [vcells, setL, ll, nl, nz, Nat.reduceAdd, Nat.reduceMul, Int.reduceToNat]; exact rfl) ?_
    refine jn ?_
    refine js ?_
    refine je ?_
    refine jq ?_
    refine jg ?_
    refine jo ?_
    refine jP ?_
    refine jo ?_
    refine jc [4] K (by simp [jOb, tsM, trM, arM, tsR, trR, arR, asN]) (by simp [jEb, jOb, jMb, mapL_cellsR, okL_cellsR, tsM, trM, arM, tsR, trR, arR, asN]) ?_; rintro _ _ ⟨rfl, rfl⟩ -; simp only [jPg, jMb, ll, Nat.reduceAdd, Nat.reduceLT, Nat.zero_add, if_true, if_false, Nat.reduceSub, reduceIte, mapL_cellsR, Nat.lt_irrefl, Nat.not_lt_zero, Nat.zero_lt_succ, Nat.lt_add_one, tsM, trM, arM, tsR, trR, arR, asN]
    refine jo ?_
    refine je ?_
    iterate 2 refine jq ?_
    refine jg ?_
    refine jP ?_
    refine jo ?_
    refine je ?_
    refine WS.pblock rfl ?_
    refine jq ?_
    refine jg ?_
    refine jB false ?_
    refine jo ?_
    refine je ?_
    refine WS.pcondF rfl rfl ?_
    refine jq ?_
    refine jg ?_
    refine jB true ?_
    refine jo ?_
    refine je ?_
    refine WS.pcondT rfl rfl ?_
    refine jq ?_
    refine jg ?_
    refine jo ?_
    refine jP ?_
    refine jo ?_
    refine jc [1,2,3] D (by simp [jOb, tsM, trM, arM, tsR, trR, arR, asN]) (by simp [jEb, jOb, jMb, mapL_cellsR, okL_cellsR, tsM, trM, arM, tsR, trR, arR, asN]) ?_; rintro _ _ ⟨rfl, rfl⟩ -; simp only [jPg, jMb, ll, Nat.reduceAdd, Nat.reduceLT, Nat.zero_add, if_true, if_false, Nat.reduceSub, reduceIte, mapL_cellsR, Nat.lt_irrefl, Nat.not_lt_zero, Nat.zero_lt_succ, Nat.lt_add_one, tsM, trM, arM, tsR, trR, arR, asN]
    refine jo ?_
    refine je ?_
    iterate 2 refine jq ?_
    refine jg ?_
    refine jo ?_
    refine jB true ?_
    refine jo ?_
    refine jB true ?_
    refine jB false ?_
    iterate 2 refine jo ?_
    refine jB false ?_
    refine jo ?_
    iterate 2 refine jN ?_
    iterate 2 refine jo ?_
    refine je ?_
    refine WS.pcondF rfl rfl ?_
    refine WS.pskip rfl ?_
    refine jq ?_
    refine jg ?_
    refine jo ?_
    refine jB true ?_
    refine je ?_
    refine WS.pcondT rfl rfl ?_
    refine WS.pdraw (tb := tb) (by kernel_rfl) rfl (by kernel_rfl) (by kernel_rfl) ?_
    refine WD.e (tb := tb) rfl rfl rfl rfl rfl rfl ?_; rw [new_mem]; simp only [ll, vcells, mem_next, Nat.zero_add, Nat.zero_mul, Nat.reduceAdd, reps, setL, Nat.reduceMul]
    iterate 2 refine jp ?_
    refine WD.pV (tb := tb) rfl rfl rfl rfl (rfl) (by simp only [Int.toNat_natCast, Int.toNat_one, Int.toNat_zero, Int.reduceToNat, Nat.zero_mul, Nat.one_mul, Nat.sub_zero, Nat.add_sub_cancel, nl, nz, Nat.reduceAdd, Nat.reduceMul, Int.reduceToNat]; exact rfl) ?_
    refine WD.e (tb := tb) rfl rfl rfl rfl rfl (evE_H (evH_append_none rfl rfl rfl rfl rfl rfl rfl rfl rfl (by omega) (by omega))) ?_; (try rw [upd_mem _ rfl]); (try rw [new_mem]); (try simp only [List.set_cons_zero, List.set_cons_succ, List.cons_append, List.nil_append, mem_next, List.length_cons, List.length_nil, Nat.zero_add, Nat.reduceAdd, List.drop_zero, vcells, cellsI_app1, cellsB_app1, cellsI_cons, repsI, repsB, Pl_app1, Pl_reps, Rn_app1, Rn_reps, Vw_app1, Vw_reps, Act_app1, Act_reps, tsM, trM, arM, tsR, trR, arR, asN])
    iterate 2 refine jp ?_
    refine jw ?_
    refine WD.p (tb := tb) rfl rfl rfl rfl (rfl) ?_
    refine WD.e (tb := tb) rfl rfl rfl rfl rfl (evE_H (evH_append_none rfl rfl rfl rfl rfl rfl rfl rfl rfl (by omega) (by omega))) ?_; (try rw [upd_mem _ rfl]); (try rw [new_mem]); (try simp only [List.set_cons_zero, List.set_cons_succ, List.cons_append, List.nil_append, mem_next, List.length_cons, List.length_nil, Nat.zero_add, Nat.reduceAdd, List.drop_zero, vcells, cellsI_app1, cellsB_app1, cellsI_cons, repsI, repsB, Pl_app1, Pl_reps, Rn_app1, Rn_reps, Vw_app1, Vw_reps, Act_app1, Act_reps, tsM, trM, arM, tsR, trR, arR, asN])
    refine jp ?_
    refine WD.fin rfl ?_
    refine jq ?_
    refine jg ?_
    iterate 2 refine jo ?_
    refine jP ?_
    refine jo ?_
    refine jc [1,2,3,7] A1 (by simp [jOb, tsM, trM, arM, tsR, trR, arR, asN]) (by simp [jEb, jOb, jMb, mapL_cellsR, okL_cellsR, tsM, trM, arM, tsR, trR, arR, asN]) ?_; rintro _ _ ⟨rfl, rfl⟩ -; simp only [jPg, jMb, ll, Nat.reduceAdd, Nat.reduceLT, Nat.zero_add, if_true, if_false, Nat.reduceSub, reduceIte, mapL_cellsR, Nat.lt_irrefl, Nat.not_lt_zero, Nat.zero_lt_succ, Nat.lt_add_one, tsM, trM, arM, tsR, trR, arR, asN]
    refine jB false ?_
    iterate 4 refine jo ?_
    refine jc [1,2,3,7] A2 (by simp [jOb, tsM, trM, arM, tsR, trR, arR, asN]) (by simp [jEb, jOb, jMb, mapL_cellsR, okL_cellsR, tsM, trM, arM, tsR, trR, arR, asN]) ?_; rintro _ _ ⟨rfl, rfl⟩ -; simp only [jPg, jMb, ll, Nat.reduceAdd, Nat.reduceLT, Nat.zero_add, if_true, if_false, Nat.reduceSub, reduceIte, mapL_cellsR, Nat.lt_irrefl, Nat.not_lt_zero, Nat.zero_lt_succ, Nat.lt_add_one, tsM, trM, arM, tsR, trR, arR, asN]
    refine jB false ?_
    iterate 5 refine jo ?_
    refine jc [1,2,3,7] B (by simp [jOb, tsM, trM, arM, tsR, trR, arR, asN]) (by simp [jEb, jOb, jMb, mapL_cellsR, okL_cellsR, tsM, trM, arM, tsR, trR, arR, asN]) ?_; rintro _ _ ⟨rfl, rfl⟩ -; simp only [jPg, jMb, ll, Nat.reduceAdd, Nat.reduceLT, Nat.zero_add, if_true, if_false, Nat.reduceSub, reduceIte, mapL_cellsR, Nat.lt_irrefl, Nat.not_lt_zero, Nat.zero_lt_succ, Nat.lt_add_one, tsM, trM, arM, tsR, trR, arR, asN]
    refine jB false ?_
    refine jo ?_
    refine je ?_
    refine WS.pcondF rfl rfl ?_
    refine WS.pskip rfl ?_
    refine jg ?_
    refine jo ?_
    refine jW ?_
    refine jo ?_
    refine je ?_
    refine WS.nil ?_
    exact ⟨(i + 1, u, true), ⟨hi, H'⟩, by simp only; omega, (jSn [0,1,2,3,7] (by simp [jVb, jOb, jMb, mapL_cellsR, okL_cellsR, SSp, MMp, MP, wV, bW, hR]) (by simp only [jSl, jOb, jMb, Nat.reduceAdd, Nat.reduceLT, SSp, MMp, MP, wV, bW, hR] <;> exact jClo))⟩
  · refine WS.pseq rfl ?_
    refine jq ?_
    refine jg ?_
    iterate 3 refine jo ?_
    refine jDT ?_
    refine je ?_
    refine WS.pcondT rfl rfl ?_
    refine WS.pskip rfl ?_
    refine jq ?_
    refine WS.pblock rfl ?_
    refine jq ?_
    refine jg ?_
    iterate 2 refine jo ?_
    refine jI ?_
    refine WS.poA (tb := tb) rfl rfl rfl rfl (step_R rfl (evR_loads rfl rfl rfl rfl rfl (by exact (cellsR_part0 (R := rwAct) hx (by exact Nat.le_of_ble_eq_true rfl))) (by exact rfl))) (by simp only [List.drop_zero, List.drop_succ_cons, List.take_succ_cons, List.take_zero, rwPl, rwRn, rwVw, rwAct]; exact rfl) ?_
    refine jn ?_
    refine js ?_
    refine je ?_
    refine jq ?_
    refine jg ?_
    refine jP ?_
    refine jo ?_
    refine jP ?_
    refine jo ?_
    refine jP ?_
    refine jo ?_
    refine WS.poA (tb := tb) rfl rfl rfl rfl rfl (by simp only [vcells, setL, ll, nl, nz, Nat.reduceAdd, Nat.reduceMul, Int.reduceToNat]; exact rfl) ?_
    refine jn ?_
    refine js ?_
    refine je ?_
    refine jq ?_
    refine jg ?_
    refine jo ?_
    refine jP ?_
    refine jo ?_
    refine jc [4] K (by simp [jOb, tsM, trM, arM, tsR, trR, arR, asN]) (by simp [jEb, jOb, jMb, mapL_cellsR, okL_cellsR, tsM, trM, arM, tsR, trR, arR, asN]) ?_; rintro _ _ ⟨rfl, rfl⟩ -; simp only [jPg, jMb, ll, Nat.reduceAdd, Nat.reduceLT, Nat.zero_add, if_true, if_false, Nat.reduceSub, reduceIte, mapL_cellsR, Nat.lt_irrefl, Nat.not_lt_zero, Nat.zero_lt_succ, Nat.lt_add_one, tsM, trM, arM, tsR, trR, arR, asN]
    refine jo ?_
    refine je ?_
    iterate 2 refine jq ?_
    refine jg ?_
    refine jP ?_
    refine jo ?_
    refine je ?_
    refine WS.pblock rfl ?_
    refine jq ?_
    refine jg ?_
    refine jB false ?_
    refine jo ?_
    refine je ?_
    refine WS.pcondF rfl rfl ?_
    refine jq ?_
    refine jg ?_
    refine jB true ?_
    refine jo ?_
    refine je ?_
    refine WS.pcondT rfl rfl ?_
    refine jq ?_
    refine jg ?_
    refine jo ?_
    refine jP ?_
    refine jo ?_
    refine jc [1,2,3] D (by simp [jOb, tsM, trM, arM, tsR, trR, arR, asN]) (by simp [jEb, jOb, jMb, mapL_cellsR, okL_cellsR, tsM, trM, arM, tsR, trR, arR, asN]) ?_; rintro _ _ ⟨rfl, rfl⟩ -; simp only [jPg, jMb, ll, Nat.reduceAdd, Nat.reduceLT, Nat.zero_add, if_true, if_false, Nat.reduceSub, reduceIte, mapL_cellsR, Nat.lt_irrefl, Nat.not_lt_zero, Nat.zero_lt_succ, Nat.lt_add_one, tsM, trM, arM, tsR, trR, arR, asN]
    refine jo ?_
    refine je ?_
    iterate 2 refine jq ?_
    refine jg ?_
    refine jo ?_
    refine jB true ?_
    refine jo ?_
    refine jB true ?_
    refine jB false ?_
    iterate 2 refine jo ?_
    refine jB false ?_
    refine jo ?_
    iterate 2 refine jN ?_
    iterate 2 refine jo ?_
    refine je ?_
    refine WS.pcondF rfl rfl ?_
    refine WS.pskip rfl ?_
    refine jq ?_
    refine jg ?_
    refine jo ?_
    refine jB true ?_
    refine je ?_
    refine WS.pcondT rfl rfl ?_
    refine WS.pdraw (tb := tb) (by kernel_rfl) rfl (by kernel_rfl) (by kernel_rfl) ?_
    refine WD.e (tb := tb) rfl rfl rfl rfl rfl rfl ?_; rw [new_mem]; simp only [ll, vcells, mem_next, Nat.zero_add, Nat.zero_mul, Nat.reduceAdd, reps, setL, Nat.reduceMul]
    iterate 2 refine jp ?_
    refine WD.pV (tb := tb) rfl rfl rfl rfl (rfl) (by simp only [Int.toNat_natCast, Int.toNat_one, Int.toNat_zero, Int.reduceToNat, Nat.zero_mul, Nat.one_mul, Nat.sub_zero, Nat.add_sub_cancel, nl, nz, Nat.reduceAdd, Nat.reduceMul, Int.reduceToNat]; exact rfl) ?_
    refine WD.e (tb := tb) rfl rfl rfl rfl rfl (evE_H (evH_append_none rfl rfl rfl rfl rfl rfl rfl rfl rfl (by omega) (by omega))) ?_; (try rw [upd_mem _ rfl]); (try rw [new_mem]); (try simp only [List.set_cons_zero, List.set_cons_succ, List.cons_append, List.nil_append, mem_next, List.length_cons, List.length_nil, Nat.zero_add, Nat.reduceAdd, List.drop_zero, vcells, cellsI_app1, cellsB_app1, cellsI_cons, repsI, repsB, Pl_app1, Pl_reps, Rn_app1, Rn_reps, Vw_app1, Vw_reps, Act_app1, Act_reps, tsM, trM, arM, tsR, trR, arR, asN])
    iterate 2 refine jp ?_
    refine jw ?_
    refine WD.p (tb := tb) rfl rfl rfl rfl (rfl) ?_
    refine WD.e (tb := tb) rfl rfl rfl rfl rfl (evE_H (evH_append_none rfl rfl rfl rfl rfl rfl rfl rfl rfl (by omega) (by omega))) ?_; (try rw [upd_mem _ rfl]); (try rw [new_mem]); (try simp only [List.set_cons_zero, List.set_cons_succ, List.cons_append, List.nil_append, mem_next, List.length_cons, List.length_nil, Nat.zero_add, Nat.reduceAdd, List.drop_zero, vcells, cellsI_app1, cellsB_app1, cellsI_cons, repsI, repsB, Pl_app1, Pl_reps, Rn_app1, Rn_reps, Vw_app1, Vw_reps, Act_app1, Act_reps, tsM, trM, arM, tsR, trR, arR, asN])
    refine jp ?_
    refine WD.fin rfl ?_
    refine jq ?_
    refine jg ?_
    iterate 2 refine jo ?_
    refine jP ?_
    refine jo ?_
    refine jc [1,2,3,7] A1 (by simp [jOb, tsM, trM, arM, tsR, trR, arR, asN]) (by simp [jEb, jOb, jMb, mapL_cellsR, okL_cellsR, tsM, trM, arM, tsR, trR, arR, asN]) ?_; rintro _ _ ⟨rfl, rfl⟩ -; simp only [jPg, jMb, ll, Nat.reduceAdd, Nat.reduceLT, Nat.zero_add, if_true, if_false, Nat.reduceSub, reduceIte, mapL_cellsR, Nat.lt_irrefl, Nat.not_lt_zero, Nat.zero_lt_succ, Nat.lt_add_one, tsM, trM, arM, tsR, trR, arR, asN]
    refine jB false ?_
    iterate 4 refine jo ?_
    refine jc [1,2,3,7] A2 (by simp [jOb, tsM, trM, arM, tsR, trR, arR, asN]) (by simp [jEb, jOb, jMb, mapL_cellsR, okL_cellsR, tsM, trM, arM, tsR, trR, arR, asN]) ?_; rintro _ _ ⟨rfl, rfl⟩ -; simp only [jPg, jMb, ll, Nat.reduceAdd, Nat.reduceLT, Nat.zero_add, if_true, if_false, Nat.reduceSub, reduceIte, mapL_cellsR, Nat.lt_irrefl, Nat.not_lt_zero, Nat.zero_lt_succ, Nat.lt_add_one, tsM, trM, arM, tsR, trR, arR, asN]
    refine jB false ?_
    iterate 5 refine jo ?_
    refine jc [1,2,3,7] B (by simp [jOb, tsM, trM, arM, tsR, trR, arR, asN]) (by simp [jEb, jOb, jMb, mapL_cellsR, okL_cellsR, tsM, trM, arM, tsR, trR, arR, asN]) ?_; rintro _ _ ⟨rfl, rfl⟩ -; simp only [jPg, jMb, ll, Nat.reduceAdd, Nat.reduceLT, Nat.zero_add, if_true, if_false, Nat.reduceSub, reduceIte, mapL_cellsR, Nat.lt_irrefl, Nat.not_lt_zero, Nat.zero_lt_succ, Nat.lt_add_one, tsM, trM, arM, tsR, trR, arR, asN]
    refine jB false ?_
    refine jo ?_
    refine je ?_
    refine WS.pcondF rfl rfl ?_
    refine WS.pskip rfl ?_
    refine jg ?_
    refine jo ?_
    refine jW ?_
    refine jo ?_
    refine je ?_
    refine WS.nil ?_
    exact ⟨(i + 1, u, true), ⟨hi, H'⟩, by simp only; omega, (jSn [0,1,2,3,7] (by simp [jVb, jOb, jMb, mapL_cellsR, okL_cellsR, SSp, MMp, MP, wV, bW, hR]) (by simp only [jSl, jOb, jMb, Nat.reduceAdd, Nat.reduceLT, SSp, MMp, MP, wV, bW, hR] <;> exact jClo))⟩
theorem pl_delok_first (size : Nat) (l : List Act) (c i : Nat) (ask : Int) (s : TS) (op lba len phys : Int) (b : Bool) (H : TOk size s) (hl : l.length ≤ 120) (h1 : 1 ≤ size) (h2 : size ≤ 60) (hx : l[i]? = some ⟨op, lba, len, phys⟩) (ho : op = 1) (hg : (getL lba s.T.ino).isSome = true) (hrow : ∃ x t, runsT s.T = x :: t ∧ t.length + 1 = s.n) (h1n : 1 < s.n) (hk : atL lba (runsT s.T) 0 = ((0 : Nat) : Int)) {x : Rn} (hjx : (runsT s.T)[0]? = some x) (hxa : x.a = lba) :
    WS Try.prog (frameN Try.f4 3) 1 [.c (k1 (k1 (k2 (k1 (k2 (k2 (k2 (k2 (k2 (k2 (k2 (kb Try.f4))))))))))))] (slt (SSp size l c ask (i, s, b))) (mem 0 (MMp l (i, s, b))) (PostP size l c ask (i, s, b)) := by
  have hi : i < l.length := (List.getElem?_eq_some_iff.1 hx).1
  have hle := H.le
  have hL := H.len
  subst ho
  have D := delete_ok H (by omega) hg
  obtain ⟨H', hn'⟩ := delS_ok H hg
  have hR := runs_delS H hjx hxa
  obtain ⟨x0, t0, hr0, ht0⟩ := hrow
  have A1 := asked_walk true lba H' h2 (by omega)
  have A2 := asked_walk true ask H' h2 (by omega)
  have B := whole_walk true H' h2 (by omega)
  rw [hr0] at hR
  simp only [List.take_zero, List.nil_append, Nat.zero_add, List.drop_succ_cons, List.drop_zero] at hR
  obtain ⟨y0, v0, hv0⟩ : ∃ y v, t0 = y :: v := by
    cases t0 with
    | nil => simp at ht0; omega
    | cons y v => exact ⟨y, v, rfl⟩
  have hvl : v0.length + 1 = (delS s lba).n := by rw [hv0] at ht0; simp only [List.length_cons] at ht0; omega
  have hn2 : (delS s lba).n = s.n - 1 := by omega
  have hdrop : ((x0 :: t0).drop (0 + 1)).take (s.n - (0 + 1)) = t0 := by simp only [Nat.zero_add, List.drop_succ_cons, List.drop_zero]; exact List.take_of_length_le (by omega)
  simp only [asM, hR, hn2] at A1 A2 B
  rw [hn2] at hvl
  generalize delS s lba = u at *
  simp only [SSp, MMp, MP, wV, bW, hr0, ht0]
  refine WS.close 10 rfl (fun e => ?_)
  have K := at_walkC (runsT s.T) (s.n + e) false lba (by rw [runsT_len]; simp only [TS.n] at hle; omega)
  rw [hk] at K
  rw [runsT_len, show s.T.ids.length = s.n from rfl] at K
  simp only [roW, hr0] at K
  iterate 2 refine jq ?_
  refine jg ?_
  iterate 3 refine jo ?_
  refine jDT ?_
  refine je ?_
  refine WS.pcondT rfl rfl ?_
  refine WS.pskip rfl ?_
  refine jq ?_
  refine WS.pblock rfl ?_
  refine jq ?_
  refine jg ?_
  iterate 2 refine jo ?_
  refine jI ?_
  refine WS.poA (tb := tb) rfl rfl rfl rfl (step_R rfl (evR_loads rfl rfl rfl rfl rfl (by exact (cellsR_part0 (R := rwAct) hx (by exact Nat.le_of_ble_eq_true rfl))) (by exact rfl))) (by simp only [List.drop_zero, List.drop_succ_cons, List.take_succ_cons, List.take_zero, rwPl, rwRn, rwVw, rwAct]; exact rfl) ?_
  refine jn ?_
  refine js ?_
  refine je ?_
  refine jq ?_
  refine jg ?_
  refine jP ?_
  refine jo ?_
  refine jP ?_
  refine jo ?_
  refine jP ?_
  refine jo ?_
  refine WS.poA (tb := tb) rfl rfl rfl rfl rfl (by simp only [vcells, setL, ll, nl, nz, Nat.reduceAdd, Nat.reduceMul, Int.reduceToNat]; exact rfl) ?_
  refine jn ?_
  refine js ?_
  refine je ?_
  refine jq ?_
  refine jg ?_
  refine jo ?_
  refine jP ?_
  refine jo ?_
  refine jc [4] K (by simp [jOb, tsM, trM, arM, tsR, trR, arR, hdrop, hn2]) (by simp [jEb, jOb, jMb, mapL_cellsR, okL_cellsR, tsM, trM, arM, tsR, trR, arR, hdrop, hn2]) ?_; rintro _ _ ⟨rfl, rfl⟩ -; simp only [jPg, jMb, ll, Nat.reduceAdd, Nat.reduceLT, Nat.zero_add, if_true, if_false, Nat.reduceSub, reduceIte, mapL_cellsR, Nat.lt_irrefl, Nat.not_lt_zero, Nat.zero_lt_succ, Nat.lt_add_one, tsM, trM, arM, tsR, trR, arR, hdrop, hn2]
  refine jo ?_
  refine je ?_
  iterate 2 refine jq ?_
  refine jg ?_
  refine jP ?_
  refine jo ?_
  refine je ?_
  refine WS.pblock rfl ?_
  refine jq ?_
  refine jg ?_
  refine jB false ?_
  refine jo ?_
  refine je ?_
  refine WS.pcondF rfl rfl ?_
  refine jq ?_
  refine jg ?_
  refine jB true ?_
  refine jo ?_
  refine je ?_
  refine WS.pcondT rfl rfl ?_
  refine jq ?_
  refine jg ?_
  refine jo ?_
  refine jP ?_
  refine jo ?_
  refine jc [1,2,3] D (by simp [jOb, tsM, trM, arM, tsR, trR, arR, hdrop, hn2]) (by simp [jEb, jOb, jMb, mapL_cellsR, okL_cellsR, tsM, trM, arM, tsR, trR, arR, hdrop, hn2]) ?_; rintro _ _ ⟨rfl, rfl⟩ -; simp only [jPg, jMb, ll, Nat.reduceAdd, Nat.reduceLT, Nat.zero_add, if_true, if_false, Nat.reduceSub, reduceIte, mapL_cellsR, Nat.lt_irrefl, Nat.not_lt_zero, Nat.zero_lt_succ, Nat.lt_add_one, tsM, trM, arM, tsR, trR, arR, hdrop, hn2]
  refine jo ?_
  refine je ?_
  iterate 2 refine jq ?_
  refine jg ?_
  refine jo ?_
  refine jB true ?_
  refine jo ?_
  refine jB true ?_
  refine jB false ?_
  iterate 2 refine jo ?_
  refine jB false ?_
  refine jo ?_
  iterate 2 refine jN ?_
  iterate 2 refine jo ?_
  refine je ?_
  refine WS.pcondF rfl rfl ?_
  refine WS.pskip rfl ?_
  refine jq ?_
  refine jg ?_
  refine jo ?_
  refine jB true ?_
  refine je ?_
  refine WS.pcondT rfl rfl ?_
  refine WS.pdraw (tb := tb) (by kernel_rfl) rfl (by kernel_rfl) (by kernel_rfl) ?_
  refine WD.e (tb := tb) rfl rfl rfl rfl rfl rfl ?_; rw [new_mem]; simp only [ll, vcells, mem_next, Nat.zero_add, Nat.zero_mul, Nat.reduceAdd, reps, setL, Nat.reduceMul]
  iterate 2 refine jp ?_
  refine WD.pV (tb := tb) rfl rfl rfl rfl (rfl) (by simp only [Int.toNat_natCast, Int.toNat_one, Int.toNat_zero, Int.reduceToNat, Nat.zero_mul, Nat.one_mul, Nat.sub_zero, Nat.add_sub_cancel, nl, nz, Nat.reduceAdd, Nat.reduceMul, Int.reduceToNat]; exact rfl) ?_
  refine WD.e (tb := tb) rfl rfl rfl rfl rfl (evE_H (evH_append_none rfl rfl rfl rfl rfl rfl rfl rfl rfl (by omega) (by omega))) ?_; (try rw [upd_mem _ rfl]); (try rw [new_mem]); (try simp only [List.set_cons_zero, List.set_cons_succ, List.cons_append, List.nil_append, mem_next, List.length_cons, List.length_nil, Nat.zero_add, Nat.reduceAdd, List.drop_zero, vcells, cellsI_app1, cellsB_app1, cellsI_cons, repsI, repsB, Pl_app1, Pl_reps, Rn_app1, Rn_reps, Vw_app1, Vw_reps, Act_app1, Act_reps, tsM, trM, arM, tsR, trR, arR, hdrop, hn2])
  iterate 2 refine jp ?_
  refine jw ?_
  refine WD.pV (tb := tb) rfl rfl rfl rfl (evP_sliceC (a := 1) rfl rfl rfl rfl rfl rfl (by first | exact .inl ⟨rfl, rfl⟩ | exact .inr ⟨_, _, rfl, rfl⟩ | exact .inr ⟨_, _, rfl, by first | assumption | omega⟩ | exact .inr ⟨_, _, rfl, (Int.toNat_of_nonneg (by omega)).symm⟩) (by first | exact .inl ⟨rfl, rfl⟩ | exact .inr ⟨_, _, rfl, rfl⟩ | exact .inr ⟨_, _, rfl, by first | assumption | omega⟩ | exact .inr ⟨_, _, rfl, (Int.toNat_of_nonneg (by omega)).symm⟩) (by omega) (by omega) (by omega)) (by simp only [Int.toNat_natCast, Int.toNat_one, Int.toNat_zero, Int.reduceToNat, Nat.zero_mul, Nat.one_mul, Nat.sub_zero, Nat.add_sub_cancel, nl, nz, Nat.reduceAdd, Nat.reduceMul, Int.reduceToNat]; exact rfl) ?_
  refine WD.e (tb := tb) rfl rfl rfl rfl rfl (evE_H (evH_append_empty rfl rfl rfl rfl rfl rfl rfl rfl rfl (by omega) (by omega) (cellsAt_rows (R := rwRn) (k := 0 + 1) rfl rfl rfl (by simp only [List.length_cons]; omega)) (by first | exact rfl | (simp only [Pl_len, Rn_len, Vw_len, Act_len, vcells, List.length_cons, List.length_nil, cellsI_len, cellsB_len, List.length_set, List.length_replicate, List.length_append, List.length_map, List.length_take, List.length_drop]; omega) | omega) (by omega))) ?_; (try rw [upd_mem _ rfl]); (try rw [new_mem]); (try simp only [List.set_cons_zero, List.set_cons_succ, List.cons_append, List.nil_append, mem_next, List.length_cons, List.length_nil, Nat.zero_add, Nat.reduceAdd, List.drop_zero, vcells, cellsI_app1, cellsB_app1, cellsI_cons, repsI, repsB, Pl_app1, Pl_reps, Rn_app1, Rn_reps, Vw_app1, Vw_reps, Act_app1, Act_reps, tsM, trM, arM, tsR, trR, arR, hdrop, hn2])
  refine jp ?_
  refine WD.fin rfl ?_
  refine jq ?_
  refine jg ?_
  iterate 2 refine jo ?_
  refine jP ?_
  refine jo ?_
  refine jc [1,2,3,8] A1 (by simp [jOb, tsM, trM, arM, tsR, trR, arR, hdrop, hn2]) (by simp [jEb, jOb, jMb, mapL_cellsR, okL_cellsR, tsM, trM, arM, tsR, trR, arR, hdrop, hn2]) ?_; rintro _ _ ⟨rfl, rfl⟩ -; simp only [jPg, jMb, ll, Nat.reduceAdd, Nat.reduceLT, Nat.zero_add, if_true, if_false, Nat.reduceSub, reduceIte, mapL_cellsR, Nat.lt_irrefl, Nat.not_lt_zero, Nat.zero_lt_succ, Nat.lt_add_one, tsM, trM, arM, tsR, trR, arR, hdrop, hn2]
  refine jB false ?_
  iterate 4 refine jo ?_
  refine jc [1,2,3,8] A2 (by simp [jOb, tsM, trM, arM, tsR, trR, arR, hdrop, hn2]) (by simp [jEb, jOb, jMb, mapL_cellsR, okL_cellsR, tsM, trM, arM, tsR, trR, arR, hdrop, hn2]) ?_; rintro _ _ ⟨rfl, rfl⟩ -; simp only [jPg, jMb, ll, Nat.reduceAdd, Nat.reduceLT, Nat.zero_add, if_true, if_false, Nat.reduceSub, reduceIte, mapL_cellsR, Nat.lt_irrefl, Nat.not_lt_zero, Nat.zero_lt_succ, Nat.lt_add_one, tsM, trM, arM, tsR, trR, arR, hdrop, hn2]
  refine jB false ?_
  iterate 5 refine jo ?_
  refine jc [1,2,3,8] B (by simp [jOb, tsM, trM, arM, tsR, trR, arR, hdrop, hn2]) (by simp [jEb, jOb, jMb, mapL_cellsR, okL_cellsR, tsM, trM, arM, tsR, trR, arR, hdrop, hn2]) ?_; rintro _ _ ⟨rfl, rfl⟩ -; simp only [jPg, jMb, ll, Nat.reduceAdd, Nat.reduceLT, Nat.zero_add, if_true, if_false, Nat.reduceSub, reduceIte, mapL_cellsR, Nat.lt_irrefl, Nat.not_lt_zero, Nat.zero_lt_succ, Nat.lt_add_one, tsM, trM, arM, tsR, trR, arR, hdrop, hn2]
  refine jB false ?_
  refine jo ?_
  refine je ?_
  refine WS.pcondF rfl rfl ?_
  refine WS.pskip rfl ?_
  refine jg ?_
  refine jo ?_
  refine jW ?_
  refine jo ?_
  refine je ?_
  refine WS.nil ?_
  exact ⟨(i + 1, u, b), ⟨hi, H'⟩, by simp only; omega, (jSn [0,1,2,3,8] (by simp [jVb, jOb, jMb, mapL_cellsR, okL_cellsR, SSp, MMp, MP, wV, bW, hR, hv0, hvl, hn2]) (by simp only [jSl, jOb, jMb, Nat.reduceAdd, Nat.reduceLT, SSp, MMp, MP, wV, bW, hR, hv0, hvl, hn2] <;> exact jClo))⟩
end Go.Proofs.Ytpogfelbimcglaa.Am

