/- Functions of the tree and of the law TreePlays, walked. Conditions: those of each theorem. -/
import Derived.Test.YtpogfelbimcglaaTr14a
namespace Go.Proofs.Ytpogfelbimcglaa.Am
open Go.Proofs
set_option maxRecDepth 1000000
set_option maxHeartbeats 4000000
set_option linter.unusedSimpArgs false
set_option linter.unusedVariables false
theorem visitVw0 (i_ l_ r_ h_ a b c : Int) :
  FM Try.prog 38 [.agg [.i .u32 i_, .i .u32 l_, .i .u32 r_, .i .i64 h_, .i .i64 a, .i .i64 b, .i .i64 c], .p (some (0,0))] [some ⟨[.sl none 0 0 false], 51, true⟩]
    (fun v M' => v = .tup [] ∧ M' = [some ⟨[.sl (some (1, 0)) 1 1 true], 51, true⟩, some ⟨cellsR rwVw [(⟨i_, l_, r_, h_, a, b, c⟩ : Vw)], 54, true⟩]) := by
  refine FM.pbodyV (tb := tb) (fn := Try.f38) rfl rfl ?_
  simp only [argS, Nat.reduceAdd, List.length_cons, List.length_nil, List.nil_append]
  refine jq ?_
  refine jg ?_
  refine jn ?_
  refine je ?_
  refine jg ?_
  refine jo ?_
  refine WS.poA (tb := tb) rfl rfl rfl rfl rfl (by simp only [List.drop_zero, List.drop_succ_cons, List.take_succ_cons, List.take_zero, rwPl, rwRn, rwVw]; exact rfl) ?_
  refine jn ?_
  refine WS.po (tb := tb) rfl rfl rfl rfl (step_H rfl rfl (evH_append_nil rfl rfl rfl rfl rfl rfl rfl rfl rfl rfl (by omega) (by omega) (cellsAt_all rfl rfl) (by first | exact rfl | (simp only [Pl_len, Rn_len, Vw_len, vcells, List.length_cons, List.length_nil, cellsI_len, cellsB_len, List.length_set, List.length_replicate, List.length_append, List.length_map, List.length_take, List.length_drop]; omega) | omega) (by omega))) ?_; (try rw [upd_mem _ rfl]); (try rw [new_mem]); (try simp only [List.set_cons_zero, List.set_cons_succ, List.cons_append, List.nil_append, mem_next, List.length_cons, List.length_nil, Nat.zero_add, Nat.reduceAdd, List.drop_zero, vcells, cellsI_app1, cellsB_app1, cellsI_cons, repsI, repsB, Pl_app1, Pl_reps, Rn_app1, Rn_reps, Vw_app1, Vw_reps])
  refine js ?_
  refine je ?_
  refine WS.nil ?_
  exact ⟨.inl rfl, _, rfl, _, rfl, [0,3], [some ⟨[.sl (some (1, 0)) 1 1 true], 51, true⟩, some ⟨cellsR rwVw [(⟨i_, l_, r_, h_, a, b, c⟩ : Vw)], 54, true⟩], .tup [], ⟨rfl, rfl, (by simp [jVb, jOb, jMb, mapL_cellsR, okL_cellsR, Vw_one]), rfl⟩, rfl, trivial, rfl, rfl⟩
theorem visitVw1 (acc : List Vw) (i_ l_ r_ h_ a b c : Int) (h0 : 0 < acc.length) (hn : acc.length ≤ 600) :
  FM Try.prog 38 [.agg [.i .u32 i_, .i .u32 l_, .i .u32 r_, .i .i64 h_, .i .i64 a, .i .i64 b, .i .i64 c], .p (some (0,0))] [some ⟨[.sl (some (1, 0)) acc.length acc.length true], 51, true⟩, some ⟨cellsR rwVw acc, 54, true⟩]
    (fun v M' => v = .tup [] ∧ M' = [some ⟨[.sl (some (2, 0)) (acc.length + 1) (acc.length + 1) true], 51, true⟩, none, some ⟨cellsR rwVw (acc ++ [(⟨i_, l_, r_, h_, a, b, c⟩ : Vw)]), 54, true⟩]) := by
  refine FM.pbodyV (tb := tb) (fn := Try.f38) rfl rfl ?_
  simp only [argS, Nat.reduceAdd, List.length_cons, List.length_nil, List.nil_append, List.cons_append]
  refine jq ?_
  refine jg ?_
  refine jn ?_
  refine je ?_
  refine jg ?_
  refine jo ?_
  refine WS.poA (tb := tb) rfl rfl rfl rfl rfl (by simp only [List.drop_zero, List.drop_succ_cons, List.take_succ_cons, List.take_zero, rwPl, rwRn, rwVw]; exact rfl) ?_
  refine jn ?_
  refine WS.po (tb := tb) rfl rfl rfl rfl (step_H rfl rfl (evH_append_open rfl rfl rfl rfl rfl rfl rfl rfl rfl (by omega) rfl (Nat.zero_le _) (by omega) (cellsAt_all rfl rfl) (by first | exact rfl | (simp only [Pl_len, Rn_len, Vw_len, vcells, List.length_cons, List.length_nil, cellsI_len, cellsB_len, List.length_set, List.length_replicate, List.length_append, List.length_map, List.length_take, List.length_drop]; omega) | omega) (by first | exact rfl | (simp only [Pl_len, Rn_len, Vw_len, vcells, List.length_cons, List.length_nil, cellsI_len, cellsB_len, List.length_set, List.length_replicate, List.length_append, List.length_map, List.length_take, List.length_drop]; omega) | omega) rfl (by omega))) ?_; (try rw [upd_mem _ rfl]); (try rw [new_mem]); (try simp only [List.set_cons_zero, List.set_cons_succ, List.cons_append, List.nil_append, mem_next, List.length_cons, List.length_nil, Nat.zero_add, Nat.reduceAdd, List.drop_zero, vcells, cellsI_app1, cellsB_app1, cellsI_cons, repsI, repsB, Pl_app1, Pl_reps, Rn_app1, Rn_reps, Vw_app1, Vw_reps])
  refine js ?_
  refine je ?_
  refine WS.nil ?_
  exact ⟨.inl rfl, _, rfl, _, rfl, [0,1,4], [some ⟨[.sl (some (2, 0)) (acc.length + 1) (acc.length + 1) true], 51, true⟩, none, some ⟨cellsR rwVw (acc ++ [(⟨i_, l_, r_, h_, a, b, c⟩ : Vw)]), 54, true⟩], .tup [], ⟨rfl, rfl, (by simp [jVb, jOb, jMb, mapL_cellsR, okL_cellsR]), rfl⟩, rfl, trivial, rfl, rfl⟩
theorem walkLfVw : FM Try.prog 36 [.p (some (2,0)), .i .u32 (0 : Nat), .fn 38 [.p (some (3,0))]] [none, none, none, none] (fun v M' => v = .tup [] ∧ M' = [none, none, none, none]) := by
  refine FM.pbody (tb := tb) (fn := Try.f36) rfl rfl ?_
  simp only [argS, Nat.reduceAdd, List.length_cons, List.length_nil, List.nil_append]
  iterate 2 refine jq ?_
  refine jg ?_
  refine jo ?_
  refine jB true ?_
  refine je ?_
  refine WS.pcondT rfl rfl ?_
  refine WS.pret rfl ⟨.inr rfl, _, rfl, ?_⟩
  exact ⟨_, rfl, rfl, rfl⟩
theorem walkVw1 (ps : List Pl) (fr lv root len : Int) (hm : ps.length ≤ 600) : ∀ (T : Tr) (acc : List Vw) , Rep ps T → T ≠ .lf → 0 < acc.length → acc.length + T.ids.length ≤ 600 → 
  FM Try.prog 36 [.p (some (2,0)), .i .u32 T.id, .fn 38 [.p (some (3,0))]] (trR ps fr lv root len ++ [some ⟨[.sl (some (4, 0)) acc.length acc.length true], 51, true⟩, some ⟨cellsR rwVw acc, 54, true⟩])
    (fun v M' => v = .tup [] ∧ M' = trR ps fr lv root len ++ [some ⟨[.sl (some (5, 0)) (acc.length + T.ids.length) (acc.length + T.ids.length) true], 51, true⟩, none, some ⟨cellsR rwVw (acc ++ viewsT T), 54, true⟩]) := by
  intro T
  induction T with
  | lf => intro acc _ h; exact absurd rfl h
  | nd id l a b c r ihl ihr =>
    intro acc hT _ hc hn
    obtain ⟨h0, ⟨nx, hp⟩, hl, hr⟩ := hT
    have G := tget_nd ps fr lv root len id _ hp rfl hm
    simp only [ids_nd, List.length_append, List.length_cons] at hn
    simp only [id_nd]
    cases l with
    | lf =>
      cases r with
      | lf =>
        have hcl : acc.length = acc.length := by simp [viewsT_len]
        have V := visitVw1 acc id (Tr.id .lf) (Tr.id .lf) (1 + ((max (Tr.ht .lf) (Tr.ht .lf) : Nat) : Int)) a b c (by omega) (by omega)
        refine FM.pbodyV (tb := tb) (fn := Try.f36) rfl rfl ?_
        simp only [argS, Nat.reduceAdd, trR, arR, List.length_cons, List.length_nil, List.cons_append, List.nil_append]
        iterate 2 refine jq ?_
        refine jg ?_
        refine jo ?_
        refine jDF ?_
        refine je ?_
        refine WS.pcondF rfl rfl ?_
        refine WS.pskip rfl ?_
        refine jq ?_
        refine jg ?_
        iterate 2 refine jo ?_
        refine jc [0,1,2] G (by simp [jOb, trR, arR, id_nd, id_lf]) (by simp [jEb, jOb, jMb, mapL_cellsR, okL_cellsR, trR, arR, id_nd, id_lf]) ?_; rintro _ _ ⟨rfl, rfl⟩ -; simp only [jPg, jMb, ll, Nat.reduceAdd, Nat.reduceLT, Nat.zero_add, if_true, if_false, Nat.reduceSub, reduceIte, mapL_cellsR, Nat.lt_irrefl, Nat.not_lt_zero, Nat.zero_lt_succ, Nat.lt_add_one, trR, arR, id_nd, id_lf]
        refine jn ?_
        refine js ?_
        refine je ?_
        refine jq ?_
        refine jg ?_
        refine jo ?_
        refine jP ?_
        iterate 2 refine jo ?_
        refine jc [0,1,2,3] walkLfVw (by simp [jOb, trR, arR, id_nd, id_lf]) (by simp [jEb, jOb, jMb, mapL_cellsR, okL_cellsR, trR, arR, id_nd, id_lf]) ?_; rintro _ _ ⟨rfl, rfl⟩ -; simp only [jPg, jMb, ll, Nat.reduceAdd, Nat.reduceLT, Nat.zero_add, if_true, if_false, Nat.reduceSub, reduceIte, mapL_cellsR, Nat.lt_irrefl, Nat.not_lt_zero, Nat.zero_lt_succ, Nat.lt_add_one, trR, arR, id_nd, id_lf]
        refine je ?_
        refine jq ?_
        refine jg ?_
        iterate 2 refine jo ?_
        refine jP ?_
        refine jo ?_
        refine jP ?_
        refine jo ?_
        refine jP ?_
        refine jo ?_
        refine jP ?_
        refine WS.poA (tb := tb) rfl rfl rfl rfl rfl (by simp only [List.drop_zero, List.drop_succ_cons, List.take_succ_cons, List.take_zero, rwPl, rwRn, rwVw]; exact rfl) ?_
        refine WS.poA (tb := tb) rfl rfl rfl rfl rfl (by simp only [vcells, setL, ll, nl, nz, Nat.reduceAdd, Nat.reduceMul, Int.reduceToNat]; exact rfl) ?_
        refine jc [3,4] V (by simp [jOb, trR, arR, id_nd, id_lf]) (by simp [jEb, jOb, jMb, mapL_cellsR, okL_cellsR, trR, arR, id_nd, id_lf]) ?_; rintro _ _ ⟨rfl, rfl⟩ -; simp only [jPg, jMb, ll, Nat.reduceAdd, Nat.reduceLT, Nat.zero_add, if_true, if_false, Nat.reduceSub, reduceIte, mapL_cellsR, Nat.lt_irrefl, Nat.not_lt_zero, Nat.zero_lt_succ, Nat.lt_add_one, trR, arR, id_nd, id_lf]
        refine je ?_
        refine jg ?_
        refine jo ?_
        refine jP ?_
        iterate 2 refine jo ?_
        refine jc [0,1,2,3] walkLfVw (by simp [jOb, trR, arR, id_nd, id_lf]) (by simp [jEb, jOb, jMb, mapL_cellsR, okL_cellsR, trR, arR, id_nd, id_lf]) ?_; rintro _ _ ⟨rfl, rfl⟩ -; simp only [jPg, jMb, ll, Nat.reduceAdd, Nat.reduceLT, Nat.zero_add, if_true, if_false, Nat.reduceSub, reduceIte, mapL_cellsR, Nat.lt_irrefl, Nat.not_lt_zero, Nat.zero_lt_succ, Nat.lt_add_one, trR, arR, id_nd, id_lf]
        refine je ?_
        refine WS.nil ?_
        have hq : acc.length + (Tr.nd id .lf a b c .lf).ids.length = acc.length + 1 := by (simp only [ids_nd, ids_lf, List.length_append, List.length_cons, List.length_nil]) <;> omega
        refine ⟨.inl rfl, _, rfl, _, rfl, [0,1,2,3,4,6], trR ps fr lv root len ++ [some ⟨[.sl (some (5, 0)) (acc.length + 1) (acc.length + 1) true], 51, true⟩, none, some ⟨cellsR rwVw (acc ++ viewsT (.nd id .lf a b c .lf)), 54, true⟩], .tup [], ⟨rfl, rfl, (by simp [jVb, jOb, jMb, mapL_cellsR, okL_cellsR, trR, arR, viewsT, id_nd, id_lf]), rfl⟩, rfl, trivial, rfl, ?_⟩
        rw [hq]; rfl
      | nd i2 l2 x2 y2 z2 r2 =>
        generalize hR : Tr.nd i2 l2 x2 y2 z2 r2 = r at *
        have hrne : r ≠ .lf := by rw [← hR]; simp
        have hcl : acc.length = acc.length := by simp [viewsT_len]
        have V := visitVw1 acc id (Tr.id .lf) (Tr.id r) (1 + ((max (Tr.ht .lf) (Tr.ht r) : Nat) : Int)) a b c (by omega) (by omega)
        have hcl2 : (acc ++ [(⟨id, (Tr.id .lf), (Tr.id r), 1 + ((max (Tr.ht .lf) (Tr.ht r) : Nat) : Int), a, b, c⟩ : Vw)]).length = acc.length + 1 := by simp [viewsT_len, Nat.add_assoc]
        have I2 := ihr (acc ++ [(⟨id, (Tr.id .lf), (Tr.id r), 1 + ((max (Tr.ht .lf) (Tr.ht r) : Nat) : Int), a, b, c⟩ : Vw)]) hr hrne (by omega) (by omega)
        rw [hcl2] at I2
        refine FM.pbodyV (tb := tb) (fn := Try.f36) rfl rfl ?_
        simp only [argS, Nat.reduceAdd, trR, arR, List.length_cons, List.length_nil, List.cons_append, List.nil_append]
        iterate 2 refine jq ?_
        refine jg ?_
        refine jo ?_
        refine jDF ?_
        refine je ?_
        refine WS.pcondF rfl rfl ?_
        refine WS.pskip rfl ?_
        refine jq ?_
        refine jg ?_
        iterate 2 refine jo ?_
        refine jc [0,1,2] G (by simp [jOb, trR, arR, id_nd, id_lf]) (by simp [jEb, jOb, jMb, mapL_cellsR, okL_cellsR, trR, arR, id_nd, id_lf]) ?_; rintro _ _ ⟨rfl, rfl⟩ -; simp only [jPg, jMb, ll, Nat.reduceAdd, Nat.reduceLT, Nat.zero_add, if_true, if_false, Nat.reduceSub, reduceIte, mapL_cellsR, Nat.lt_irrefl, Nat.not_lt_zero, Nat.zero_lt_succ, Nat.lt_add_one, trR, arR, id_nd, id_lf]
        refine jn ?_
        refine js ?_
        refine je ?_
        refine jq ?_
        refine jg ?_
        refine jo ?_
        refine jP ?_
        iterate 2 refine jo ?_
        refine jc [0,1,2,3] walkLfVw (by simp [jOb, trR, arR, id_nd, id_lf]) (by simp [jEb, jOb, jMb, mapL_cellsR, okL_cellsR, trR, arR, id_nd, id_lf]) ?_; rintro _ _ ⟨rfl, rfl⟩ -; simp only [jPg, jMb, ll, Nat.reduceAdd, Nat.reduceLT, Nat.zero_add, if_true, if_false, Nat.reduceSub, reduceIte, mapL_cellsR, Nat.lt_irrefl, Nat.not_lt_zero, Nat.zero_lt_succ, Nat.lt_add_one, trR, arR, id_nd, id_lf]
        refine je ?_
        refine jq ?_
        refine jg ?_
        iterate 2 refine jo ?_
        refine jP ?_
        refine jo ?_
        refine jP ?_
        refine jo ?_
        refine jP ?_
        refine jo ?_
        refine jP ?_
        refine WS.poA (tb := tb) rfl rfl rfl rfl rfl (by simp only [List.drop_zero, List.drop_succ_cons, List.take_succ_cons, List.take_zero, rwPl, rwRn, rwVw]; exact rfl) ?_
        refine WS.poA (tb := tb) rfl rfl rfl rfl rfl (by simp only [vcells, setL, ll, nl, nz, Nat.reduceAdd, Nat.reduceMul, Int.reduceToNat]; exact rfl) ?_
        refine jc [3,4] V (by simp [jOb, trR, arR, id_nd, id_lf]) (by simp [jEb, jOb, jMb, mapL_cellsR, okL_cellsR, trR, arR, id_nd, id_lf]) ?_; rintro _ _ ⟨rfl, rfl⟩ -; simp only [jPg, jMb, ll, Nat.reduceAdd, Nat.reduceLT, Nat.zero_add, if_true, if_false, Nat.reduceSub, reduceIte, mapL_cellsR, Nat.lt_irrefl, Nat.not_lt_zero, Nat.zero_lt_succ, Nat.lt_add_one, trR, arR, id_nd, id_lf]
        refine je ?_
        refine jg ?_
        refine jo ?_
        refine jP ?_
        iterate 2 refine jo ?_
        refine jc [0,1,2,3,6] I2 (by simp [jOb, trR, arR, id_nd, id_lf]) (by simp [jEb, jOb, jMb, mapL_cellsR, okL_cellsR, trR, arR, id_nd, id_lf]) ?_; rintro _ _ ⟨rfl, rfl⟩ -; simp only [jPg, jMb, ll, Nat.reduceAdd, Nat.reduceLT, Nat.zero_add, if_true, if_false, Nat.reduceSub, reduceIte, mapL_cellsR, Nat.lt_irrefl, Nat.not_lt_zero, Nat.zero_lt_succ, Nat.lt_add_one, trR, arR, id_nd, id_lf]
        refine je ?_
        refine WS.nil ?_
        have hq : acc.length + (Tr.nd id .lf a b c r).ids.length = acc.length + 1 + r.ids.length := by (simp only [ids_nd, ids_lf, List.length_append, List.length_cons, List.length_nil]) <;> omega
        refine ⟨.inl rfl, _, rfl, _, rfl, [0,1,2,3,4,7], trR ps fr lv root len ++ [some ⟨[.sl (some (5, 0)) (acc.length + 1 + r.ids.length) (acc.length + 1 + r.ids.length) true], 51, true⟩, none, some ⟨cellsR rwVw (acc ++ viewsT (.nd id .lf a b c r)), 54, true⟩], .tup [], ⟨rfl, rfl, (by simp [jVb, jOb, jMb, mapL_cellsR, okL_cellsR, trR, arR, viewsT, id_nd, id_lf]), rfl⟩, rfl, trivial, rfl, ?_⟩
        rw [hq]; rfl
    | nd i1 l1 x1 y1 z1 r1 =>
      generalize hL : Tr.nd i1 l1 x1 y1 z1 r1 = l at *
      have hlne : l ≠ .lf := by rw [← hL]; simp
      cases r with
      | lf =>
        have I1 := ihl acc hl hlne hc (by omega)
        have hcl : (acc ++ viewsT l).length = acc.length + l.ids.length := by simp [viewsT_len]
        have hl0 : 0 < l.ids.length := by rw [← hL, ids_nd, List.length_append, List.length_cons]; omega
        have V := visitVw1 (acc ++ viewsT l) id (Tr.id l) (Tr.id .lf) (1 + ((max (Tr.ht l) (Tr.ht .lf) : Nat) : Int)) a b c (by omega) (by omega)
        rw [hcl] at V
        have ha : acc.length + (l.ids.length + 1) = acc.length + l.ids.length + 1 := by omega
        refine FM.pbodyV (tb := tb) (fn := Try.f36) rfl rfl ?_
        simp only [argS, Nat.reduceAdd, trR, arR, List.length_cons, List.length_nil, List.cons_append, List.nil_append]
        iterate 2 refine jq ?_
        refine jg ?_
        refine jo ?_
        refine jDF ?_
        refine je ?_
        refine WS.pcondF rfl rfl ?_
        refine WS.pskip rfl ?_
        refine jq ?_
        refine jg ?_
        iterate 2 refine jo ?_
        refine jc [0,1,2] G (by simp [jOb, trR, arR, id_nd, id_lf, ha]) (by simp [jEb, jOb, jMb, mapL_cellsR, okL_cellsR, trR, arR, id_nd, id_lf, ha]) ?_; rintro _ _ ⟨rfl, rfl⟩ -; simp only [jPg, jMb, ll, Nat.reduceAdd, Nat.reduceLT, Nat.zero_add, if_true, if_false, Nat.reduceSub, reduceIte, mapL_cellsR, Nat.lt_irrefl, Nat.not_lt_zero, Nat.zero_lt_succ, Nat.lt_add_one, trR, arR, id_nd, id_lf, ha]
        refine jn ?_
        refine js ?_
        refine je ?_
        refine jq ?_
        refine jg ?_
        refine jo ?_
        refine jP ?_
        iterate 2 refine jo ?_
        refine jc [0,1,2,3,4] I1 (by simp [jOb, trR, arR, id_nd, id_lf, ha]) (by simp [jEb, jOb, jMb, mapL_cellsR, okL_cellsR, trR, arR, id_nd, id_lf, ha]) ?_; rintro _ _ ⟨rfl, rfl⟩ -; simp only [jPg, jMb, ll, Nat.reduceAdd, Nat.reduceLT, Nat.zero_add, if_true, if_false, Nat.reduceSub, reduceIte, mapL_cellsR, Nat.lt_irrefl, Nat.not_lt_zero, Nat.zero_lt_succ, Nat.lt_add_one, trR, arR, id_nd, id_lf, ha]
        refine je ?_
        refine jq ?_
        refine jg ?_
        iterate 2 refine jo ?_
        refine jP ?_
        refine jo ?_
        refine jP ?_
        refine jo ?_
        refine jP ?_
        refine jo ?_
        refine jP ?_
        refine WS.poA (tb := tb) rfl rfl rfl rfl rfl (by simp only [List.drop_zero, List.drop_succ_cons, List.take_succ_cons, List.take_zero, rwPl, rwRn, rwVw]; exact rfl) ?_
        refine WS.poA (tb := tb) rfl rfl rfl rfl rfl (by simp only [vcells, setL, ll, nl, nz, Nat.reduceAdd, Nat.reduceMul, Int.reduceToNat]; exact rfl) ?_
        refine jc [3,6] V (by simp [jOb, trR, arR, id_nd, id_lf, ha]) (by simp [jEb, jOb, jMb, mapL_cellsR, okL_cellsR, trR, arR, id_nd, id_lf, ha]) ?_; rintro _ _ ⟨rfl, rfl⟩ -; simp only [jPg, jMb, ll, Nat.reduceAdd, Nat.reduceLT, Nat.zero_add, if_true, if_false, Nat.reduceSub, reduceIte, mapL_cellsR, Nat.lt_irrefl, Nat.not_lt_zero, Nat.zero_lt_succ, Nat.lt_add_one, trR, arR, id_nd, id_lf, ha]
        refine je ?_
        refine jg ?_
        refine jo ?_
        refine jP ?_
        iterate 2 refine jo ?_
        refine jc [0,1,2,3] walkLfVw (by simp [jOb, trR, arR, id_nd, id_lf, ha]) (by simp [jEb, jOb, jMb, mapL_cellsR, okL_cellsR, trR, arR, id_nd, id_lf, ha]) ?_; rintro _ _ ⟨rfl, rfl⟩ -; simp only [jPg, jMb, ll, Nat.reduceAdd, Nat.reduceLT, Nat.zero_add, if_true, if_false, Nat.reduceSub, reduceIte, mapL_cellsR, Nat.lt_irrefl, Nat.not_lt_zero, Nat.zero_lt_succ, Nat.lt_add_one, trR, arR, id_nd, id_lf, ha]
        refine je ?_
        refine WS.nil ?_
        have hq : acc.length + (Tr.nd id l a b c .lf).ids.length = acc.length + l.ids.length + 1 := by (simp only [ids_nd, ids_lf, List.length_append, List.length_cons, List.length_nil]) <;> omega
        refine ⟨.inl rfl, _, rfl, _, rfl, [0,1,2,3,4,7], trR ps fr lv root len ++ [some ⟨[.sl (some (5, 0)) (acc.length + l.ids.length + 1) (acc.length + l.ids.length + 1) true], 51, true⟩, none, some ⟨cellsR rwVw (acc ++ viewsT (.nd id l a b c .lf)), 54, true⟩], .tup [], ⟨rfl, rfl, (by simp [jVb, jOb, jMb, mapL_cellsR, okL_cellsR, trR, arR, viewsT, id_nd, id_lf]), rfl⟩, rfl, trivial, rfl, ?_⟩
        rw [hq]; rfl
      | nd i2 l2 x2 y2 z2 r2 =>
        generalize hR : Tr.nd i2 l2 x2 y2 z2 r2 = r at *
        have hrne : r ≠ .lf := by rw [← hR]; simp
        have I1 := ihl acc hl hlne hc (by omega)
        have hcl : (acc ++ viewsT l).length = acc.length + l.ids.length := by simp [viewsT_len]
        have hl0 : 0 < l.ids.length := by rw [← hL, ids_nd, List.length_append, List.length_cons]; omega
        have V := visitVw1 (acc ++ viewsT l) id (Tr.id l) (Tr.id r) (1 + ((max (Tr.ht l) (Tr.ht r) : Nat) : Int)) a b c (by omega) (by omega)
        rw [hcl] at V
        have hcl2 : ((acc ++ viewsT l) ++ [(⟨id, (Tr.id l), (Tr.id r), 1 + ((max (Tr.ht l) (Tr.ht r) : Nat) : Int), a, b, c⟩ : Vw)]).length = acc.length + l.ids.length + 1 := by simp [viewsT_len, Nat.add_assoc]
        have I2 := ihr ((acc ++ viewsT l) ++ [(⟨id, (Tr.id l), (Tr.id r), 1 + ((max (Tr.ht l) (Tr.ht r) : Nat) : Int), a, b, c⟩ : Vw)]) hr hrne (by omega) (by omega)
        rw [hcl2] at I2
        have ha : acc.length + (l.ids.length + 1) = acc.length + l.ids.length + 1 := by omega
        refine FM.pbodyV (tb := tb) (fn := Try.f36) rfl rfl ?_
        simp only [argS, Nat.reduceAdd, trR, arR, List.length_cons, List.length_nil, List.cons_append, List.nil_append]
        iterate 2 refine jq ?_
        refine jg ?_
        refine jo ?_
        refine jDF ?_
        refine je ?_
        refine WS.pcondF rfl rfl ?_
        refine WS.pskip rfl ?_
        refine jq ?_
        refine jg ?_
        iterate 2 refine jo ?_
        refine jc [0,1,2] G (by simp [jOb, trR, arR, id_nd, id_lf, ha]) (by simp [jEb, jOb, jMb, mapL_cellsR, okL_cellsR, trR, arR, id_nd, id_lf, ha]) ?_; rintro _ _ ⟨rfl, rfl⟩ -; simp only [jPg, jMb, ll, Nat.reduceAdd, Nat.reduceLT, Nat.zero_add, if_true, if_false, Nat.reduceSub, reduceIte, mapL_cellsR, Nat.lt_irrefl, Nat.not_lt_zero, Nat.zero_lt_succ, Nat.lt_add_one, trR, arR, id_nd, id_lf, ha]
        refine jn ?_
        refine js ?_
        refine je ?_
        refine jq ?_
        refine jg ?_
        refine jo ?_
        refine jP ?_
        iterate 2 refine jo ?_
        refine jc [0,1,2,3,4] I1 (by simp [jOb, trR, arR, id_nd, id_lf, ha]) (by simp [jEb, jOb, jMb, mapL_cellsR, okL_cellsR, trR, arR, id_nd, id_lf, ha]) ?_; rintro _ _ ⟨rfl, rfl⟩ -; simp only [jPg, jMb, ll, Nat.reduceAdd, Nat.reduceLT, Nat.zero_add, if_true, if_false, Nat.reduceSub, reduceIte, mapL_cellsR, Nat.lt_irrefl, Nat.not_lt_zero, Nat.zero_lt_succ, Nat.lt_add_one, trR, arR, id_nd, id_lf, ha]
        refine je ?_
        refine jq ?_
        refine jg ?_
        iterate 2 refine jo ?_
        refine jP ?_
        refine jo ?_
        refine jP ?_
        refine jo ?_
        refine jP ?_
        refine jo ?_
        refine jP ?_
        refine WS.poA (tb := tb) rfl rfl rfl rfl rfl (by simp only [List.drop_zero, List.drop_succ_cons, List.take_succ_cons, List.take_zero, rwPl, rwRn, rwVw]; exact rfl) ?_
        refine WS.poA (tb := tb) rfl rfl rfl rfl rfl (by simp only [vcells, setL, ll, nl, nz, Nat.reduceAdd, Nat.reduceMul, Int.reduceToNat]; exact rfl) ?_
        refine jc [3,6] V (by simp [jOb, trR, arR, id_nd, id_lf, ha]) (by simp [jEb, jOb, jMb, mapL_cellsR, okL_cellsR, trR, arR, id_nd, id_lf, ha]) ?_; rintro _ _ ⟨rfl, rfl⟩ -; simp only [jPg, jMb, ll, Nat.reduceAdd, Nat.reduceLT, Nat.zero_add, if_true, if_false, Nat.reduceSub, reduceIte, mapL_cellsR, Nat.lt_irrefl, Nat.not_lt_zero, Nat.zero_lt_succ, Nat.lt_add_one, trR, arR, id_nd, id_lf, ha]
        refine je ?_
        refine jg ?_
        refine jo ?_
        refine jP ?_
        iterate 2 refine jo ?_
        refine jc [0,1,2,3,7] I2 (by simp [jOb, trR, arR, id_nd, id_lf, ha]) (by simp [jEb, jOb, jMb, mapL_cellsR, okL_cellsR, trR, arR, id_nd, id_lf, ha]) ?_; rintro _ _ ⟨rfl, rfl⟩ -; simp only [jPg, jMb, ll, Nat.reduceAdd, Nat.reduceLT, Nat.zero_add, if_true, if_false, Nat.reduceSub, reduceIte, mapL_cellsR, Nat.lt_irrefl, Nat.not_lt_zero, Nat.zero_lt_succ, Nat.lt_add_one, trR, arR, id_nd, id_lf, ha]
        refine je ?_
        refine WS.nil ?_
        have hq : acc.length + (Tr.nd id l a b c r).ids.length = acc.length + l.ids.length + 1 + r.ids.length := by (simp only [ids_nd, ids_lf, List.length_append, List.length_cons, List.length_nil]) <;> omega
        refine ⟨.inl rfl, _, rfl, _, rfl, [0,1,2,3,4,8], trR ps fr lv root len ++ [some ⟨[.sl (some (5, 0)) (acc.length + l.ids.length + 1 + r.ids.length) (acc.length + l.ids.length + 1 + r.ids.length) true], 51, true⟩, none, some ⟨cellsR rwVw (acc ++ viewsT (.nd id l a b c r)), 54, true⟩], .tup [], ⟨rfl, rfl, (by simp [jVb, jOb, jMb, mapL_cellsR, okL_cellsR, trR, arR, viewsT, id_nd, id_lf]), rfl⟩, rfl, trivial, rfl, ?_⟩
        rw [hq]; rfl
theorem walkVw0 (ps : List Pl) (fr lv root len : Int) (hm : ps.length ≤ 600) : ∀ (T : Tr) , Rep ps T → T ≠ .lf → T.ids.length ≤ 600 → 
  FM Try.prog 36 [.p (some (2,0)), .i .u32 T.id, .fn 38 [.p (some (3,0))]] (trR ps fr lv root len ++ [some ⟨[.sl none 0 0 false], 51, true⟩])
    (fun v M' => v = .tup [] ∧ M' = trR ps fr lv root len ++ [some ⟨[.sl (some (4, 0)) T.ids.length T.ids.length true], 51, true⟩, some ⟨cellsR rwVw (viewsT T), 54, true⟩]) := by
  intro T
  induction T with
  | lf => intro _ h; exact absurd rfl h
  | nd id l a b c r ihl ihr =>
    intro  hT _  hn
    obtain ⟨h0, ⟨nx, hp⟩, hl, hr⟩ := hT
    have G := tget_nd ps fr lv root len id _ hp rfl hm
    simp only [ids_nd, List.length_append, List.length_cons] at hn
    simp only [id_nd]
    cases l with
    | lf =>
      cases r with
      | lf =>
        have V := visitVw0 id (Tr.id .lf) (Tr.id .lf) (1 + ((max (Tr.ht .lf) (Tr.ht .lf) : Nat) : Int)) a b c
        refine FM.pbodyV (tb := tb) (fn := Try.f36) rfl rfl ?_
        simp only [argS, Nat.reduceAdd, trR, arR, List.length_cons, List.length_nil, List.cons_append, List.nil_append]
        iterate 2 refine jq ?_
        refine jg ?_
        refine jo ?_
        refine jDF ?_
        refine je ?_
        refine WS.pcondF rfl rfl ?_
        refine WS.pskip rfl ?_
        refine jq ?_
        refine jg ?_
        iterate 2 refine jo ?_
        refine jc [0,1,2] G (by simp [jOb, trR, arR, id_nd, id_lf]) (by simp [jEb, jOb, jMb, mapL_cellsR, okL_cellsR, trR, arR, id_nd, id_lf]) ?_; rintro _ _ ⟨rfl, rfl⟩ -; simp only [jPg, jMb, ll, Nat.reduceAdd, Nat.reduceLT, Nat.zero_add, if_true, if_false, Nat.reduceSub, reduceIte, mapL_cellsR, Nat.lt_irrefl, Nat.not_lt_zero, Nat.zero_lt_succ, Nat.lt_add_one, trR, arR, id_nd, id_lf]
        refine jn ?_
        refine js ?_
        refine je ?_
        refine jq ?_
        refine jg ?_
        refine jo ?_
        refine jP ?_
        iterate 2 refine jo ?_
        refine jc [0,1,2,3] walkLfVw (by simp [jOb, trR, arR, id_nd, id_lf]) (by simp [jEb, jOb, jMb, mapL_cellsR, okL_cellsR, trR, arR, id_nd, id_lf]) ?_; rintro _ _ ⟨rfl, rfl⟩ -; simp only [jPg, jMb, ll, Nat.reduceAdd, Nat.reduceLT, Nat.zero_add, if_true, if_false, Nat.reduceSub, reduceIte, mapL_cellsR, Nat.lt_irrefl, Nat.not_lt_zero, Nat.zero_lt_succ, Nat.lt_add_one, trR, arR, id_nd, id_lf]
        refine je ?_
        refine jq ?_
        refine jg ?_
        iterate 2 refine jo ?_
        refine jP ?_
        refine jo ?_
        refine jP ?_
        refine jo ?_
        refine jP ?_
        refine jo ?_
        refine jP ?_
        refine WS.poA (tb := tb) rfl rfl rfl rfl rfl (by simp only [List.drop_zero, List.drop_succ_cons, List.take_succ_cons, List.take_zero, rwPl, rwRn, rwVw]; exact rfl) ?_
        refine WS.poA (tb := tb) rfl rfl rfl rfl rfl (by simp only [vcells, setL, ll, nl, nz, Nat.reduceAdd, Nat.reduceMul, Int.reduceToNat]; exact rfl) ?_
        refine jc [3] V (by simp [jOb, trR, arR, id_nd, id_lf]) (by simp [jEb, jOb, jMb, mapL_cellsR, okL_cellsR, trR, arR, id_nd, id_lf]) ?_; rintro _ _ ⟨rfl, rfl⟩ -; simp only [jPg, jMb, ll, Nat.reduceAdd, Nat.reduceLT, Nat.zero_add, if_true, if_false, Nat.reduceSub, reduceIte, mapL_cellsR, Nat.lt_irrefl, Nat.not_lt_zero, Nat.zero_lt_succ, Nat.lt_add_one, trR, arR, id_nd, id_lf]
        refine je ?_
        refine jg ?_
        refine jo ?_
        refine jP ?_
        iterate 2 refine jo ?_
        refine jc [0,1,2,3] walkLfVw (by simp [jOb, trR, arR, id_nd, id_lf]) (by simp [jEb, jOb, jMb, mapL_cellsR, okL_cellsR, trR, arR, id_nd, id_lf]) ?_; rintro _ _ ⟨rfl, rfl⟩ -; simp only [jPg, jMb, ll, Nat.reduceAdd, Nat.reduceLT, Nat.zero_add, if_true, if_false, Nat.reduceSub, reduceIte, mapL_cellsR, Nat.lt_irrefl, Nat.not_lt_zero, Nat.zero_lt_succ, Nat.lt_add_one, trR, arR, id_nd, id_lf]
        refine je ?_
        refine WS.nil ?_
        have hq : (Tr.nd id .lf a b c .lf).ids.length = 1 := by (simp only [ids_nd, ids_lf, List.length_append, List.length_cons, List.length_nil]) <;> omega
        refine ⟨.inl rfl, _, rfl, _, rfl, [0,1,2,3,5], trR ps fr lv root len ++ [some ⟨[.sl (some (4, 0)) (1) (1) true], 51, true⟩, some ⟨cellsR rwVw (viewsT (.nd id .lf a b c .lf)), 54, true⟩], .tup [], ⟨rfl, rfl, (by simp [jVb, jOb, jMb, mapL_cellsR, okL_cellsR, trR, arR, viewsT, id_nd, id_lf]), rfl⟩, rfl, trivial, rfl, ?_⟩
        rw [hq]; rfl
      | nd i2 l2 x2 y2 z2 r2 =>
        generalize hR : Tr.nd i2 l2 x2 y2 z2 r2 = r at *
        have hrne : r ≠ .lf := by rw [← hR]; simp
        have V := visitVw0 id (Tr.id .lf) (Tr.id r) (1 + ((max (Tr.ht .lf) (Tr.ht r) : Nat) : Int)) a b c
        have hcl2 : ([(⟨id, (Tr.id .lf), (Tr.id r), 1 + ((max (Tr.ht .lf) (Tr.ht r) : Nat) : Int), a, b, c⟩ : Vw)] : List Vw).length = 1 := by simp [viewsT_len, Nat.add_assoc]
        have I2 := walkVw1 ps fr lv root len hm r ([(⟨id, (Tr.id .lf), (Tr.id r), 1 + ((max (Tr.ht .lf) (Tr.ht r) : Nat) : Int), a, b, c⟩ : Vw)] : List Vw) hr hrne (by omega) (by omega)
        rw [hcl2] at I2
        refine FM.pbodyV (tb := tb) (fn := Try.f36) rfl rfl ?_
        simp only [argS, Nat.reduceAdd, trR, arR, List.length_cons, List.length_nil, List.cons_append, List.nil_append]
        iterate 2 refine jq ?_
        refine jg ?_
        refine jo ?_
        refine jDF ?_
        refine je ?_
        refine WS.pcondF rfl rfl ?_
        refine WS.pskip rfl ?_
        refine jq ?_
        refine jg ?_
        iterate 2 refine jo ?_
        refine jc [0,1,2] G (by simp [jOb, trR, arR, id_nd, id_lf]) (by simp [jEb, jOb, jMb, mapL_cellsR, okL_cellsR, trR, arR, id_nd, id_lf]) ?_; rintro _ _ ⟨rfl, rfl⟩ -; simp only [jPg, jMb, ll, Nat.reduceAdd, Nat.reduceLT, Nat.zero_add, if_true, if_false, Nat.reduceSub, reduceIte, mapL_cellsR, Nat.lt_irrefl, Nat.not_lt_zero, Nat.zero_lt_succ, Nat.lt_add_one, trR, arR, id_nd, id_lf]
        refine jn ?_
        refine js ?_
        refine je ?_
        refine jq ?_
        refine jg ?_
        refine jo ?_
        refine jP ?_
        iterate 2 refine jo ?_
        refine jc [0,1,2,3] walkLfVw (by simp [jOb, trR, arR, id_nd, id_lf]) (by simp [jEb, jOb, jMb, mapL_cellsR, okL_cellsR, trR, arR, id_nd, id_lf]) ?_; rintro _ _ ⟨rfl, rfl⟩ -; simp only [jPg, jMb, ll, Nat.reduceAdd, Nat.reduceLT, Nat.zero_add, if_true, if_false, Nat.reduceSub, reduceIte, mapL_cellsR, Nat.lt_irrefl, Nat.not_lt_zero, Nat.zero_lt_succ, Nat.lt_add_one, trR, arR, id_nd, id_lf]
        refine je ?_
        refine jq ?_
        refine jg ?_
        iterate 2 refine jo ?_
        refine jP ?_
        refine jo ?_
        refine jP ?_
        refine jo ?_
        refine jP ?_
        refine jo ?_
        refine jP ?_
        refine WS.poA (tb := tb) rfl rfl rfl rfl rfl (by simp only [List.drop_zero, List.drop_succ_cons, List.take_succ_cons, List.take_zero, rwPl, rwRn, rwVw]; exact rfl) ?_
        refine WS.poA (tb := tb) rfl rfl rfl rfl rfl (by simp only [vcells, setL, ll, nl, nz, Nat.reduceAdd, Nat.reduceMul, Int.reduceToNat]; exact rfl) ?_
        refine jc [3] V (by simp [jOb, trR, arR, id_nd, id_lf]) (by simp [jEb, jOb, jMb, mapL_cellsR, okL_cellsR, trR, arR, id_nd, id_lf]) ?_; rintro _ _ ⟨rfl, rfl⟩ -; simp only [jPg, jMb, ll, Nat.reduceAdd, Nat.reduceLT, Nat.zero_add, if_true, if_false, Nat.reduceSub, reduceIte, mapL_cellsR, Nat.lt_irrefl, Nat.not_lt_zero, Nat.zero_lt_succ, Nat.lt_add_one, trR, arR, id_nd, id_lf]
        refine je ?_
        refine jg ?_
        refine jo ?_
        refine jP ?_
        iterate 2 refine jo ?_
        refine jc [0,1,2,3,5] I2 (by simp [jOb, trR, arR, id_nd, id_lf]) (by simp [jEb, jOb, jMb, mapL_cellsR, okL_cellsR, trR, arR, id_nd, id_lf]) ?_; rintro _ _ ⟨rfl, rfl⟩ -; simp only [jPg, jMb, ll, Nat.reduceAdd, Nat.reduceLT, Nat.zero_add, if_true, if_false, Nat.reduceSub, reduceIte, mapL_cellsR, Nat.lt_irrefl, Nat.not_lt_zero, Nat.zero_lt_succ, Nat.lt_add_one, trR, arR, id_nd, id_lf]
        refine je ?_
        refine WS.nil ?_
        have hq : (Tr.nd id .lf a b c r).ids.length = 1 + r.ids.length := by (simp only [ids_nd, ids_lf, List.length_append, List.length_cons, List.length_nil]) <;> omega
        refine ⟨.inl rfl, _, rfl, _, rfl, [0,1,2,3,6], trR ps fr lv root len ++ [some ⟨[.sl (some (4, 0)) (1 + r.ids.length) (1 + r.ids.length) true], 51, true⟩, some ⟨cellsR rwVw (viewsT (.nd id .lf a b c r)), 54, true⟩], .tup [], ⟨rfl, rfl, (by simp [jVb, jOb, jMb, mapL_cellsR, okL_cellsR, trR, arR, viewsT, id_nd, id_lf]), rfl⟩, rfl, trivial, rfl, ?_⟩
        rw [hq]; rfl
    | nd i1 l1 x1 y1 z1 r1 =>
      generalize hL : Tr.nd i1 l1 x1 y1 z1 r1 = l at *
      have hlne : l ≠ .lf := by rw [← hL]; simp
      cases r with
      | lf =>
        have I1 := ihl hl hlne (by omega)
        have hcl : (viewsT l).length = l.ids.length := by simp [viewsT_len]
        have hl0 : 0 < l.ids.length := by rw [← hL, ids_nd, List.length_append, List.length_cons]; omega
        have V := visitVw1 (viewsT l) id (Tr.id l) (Tr.id .lf) (1 + ((max (Tr.ht l) (Tr.ht .lf) : Nat) : Int)) a b c (by omega) (by omega)
        rw [hcl] at V
        refine FM.pbodyV (tb := tb) (fn := Try.f36) rfl rfl ?_
        simp only [argS, Nat.reduceAdd, trR, arR, List.length_cons, List.length_nil, List.cons_append, List.nil_append]
        iterate 2 refine jq ?_
        refine jg ?_
        refine jo ?_
        refine jDF ?_
        refine je ?_
        refine WS.pcondF rfl rfl ?_
        refine WS.pskip rfl ?_
        refine jq ?_
        refine jg ?_
        iterate 2 refine jo ?_
        refine jc [0,1,2] G (by simp [jOb, trR, arR, id_nd, id_lf]) (by simp [jEb, jOb, jMb, mapL_cellsR, okL_cellsR, trR, arR, id_nd, id_lf]) ?_; rintro _ _ ⟨rfl, rfl⟩ -; simp only [jPg, jMb, ll, Nat.reduceAdd, Nat.reduceLT, Nat.zero_add, if_true, if_false, Nat.reduceSub, reduceIte, mapL_cellsR, Nat.lt_irrefl, Nat.not_lt_zero, Nat.zero_lt_succ, Nat.lt_add_one, trR, arR, id_nd, id_lf]
        refine jn ?_
        refine js ?_
        refine je ?_
        refine jq ?_
        refine jg ?_
        refine jo ?_
        refine jP ?_
        iterate 2 refine jo ?_
        refine jc [0,1,2,3] I1 (by simp [jOb, trR, arR, id_nd, id_lf]) (by simp [jEb, jOb, jMb, mapL_cellsR, okL_cellsR, trR, arR, id_nd, id_lf]) ?_; rintro _ _ ⟨rfl, rfl⟩ -; simp only [jPg, jMb, ll, Nat.reduceAdd, Nat.reduceLT, Nat.zero_add, if_true, if_false, Nat.reduceSub, reduceIte, mapL_cellsR, Nat.lt_irrefl, Nat.not_lt_zero, Nat.zero_lt_succ, Nat.lt_add_one, trR, arR, id_nd, id_lf]
        refine je ?_
        refine jq ?_
        refine jg ?_
        iterate 2 refine jo ?_
        refine jP ?_
        refine jo ?_
        refine jP ?_
        refine jo ?_
        refine jP ?_
        refine jo ?_
        refine jP ?_
        refine WS.poA (tb := tb) rfl rfl rfl rfl rfl (by simp only [List.drop_zero, List.drop_succ_cons, List.take_succ_cons, List.take_zero, rwPl, rwRn, rwVw]; exact rfl) ?_
        refine WS.poA (tb := tb) rfl rfl rfl rfl rfl (by simp only [vcells, setL, ll, nl, nz, Nat.reduceAdd, Nat.reduceMul, Int.reduceToNat]; exact rfl) ?_
        refine jc [3,5] V (by simp [jOb, trR, arR, id_nd, id_lf]) (by simp [jEb, jOb, jMb, mapL_cellsR, okL_cellsR, trR, arR, id_nd, id_lf]) ?_; rintro _ _ ⟨rfl, rfl⟩ -; simp only [jPg, jMb, ll, Nat.reduceAdd, Nat.reduceLT, Nat.zero_add, if_true, if_false, Nat.reduceSub, reduceIte, mapL_cellsR, Nat.lt_irrefl, Nat.not_lt_zero, Nat.zero_lt_succ, Nat.lt_add_one, trR, arR, id_nd, id_lf]
        refine je ?_
        refine jg ?_
        refine jo ?_
        refine jP ?_
        iterate 2 refine jo ?_
        refine jc [0,1,2,3] walkLfVw (by simp [jOb, trR, arR, id_nd, id_lf]) (by simp [jEb, jOb, jMb, mapL_cellsR, okL_cellsR, trR, arR, id_nd, id_lf]) ?_; rintro _ _ ⟨rfl, rfl⟩ -; simp only [jPg, jMb, ll, Nat.reduceAdd, Nat.reduceLT, Nat.zero_add, if_true, if_false, Nat.reduceSub, reduceIte, mapL_cellsR, Nat.lt_irrefl, Nat.not_lt_zero, Nat.zero_lt_succ, Nat.lt_add_one, trR, arR, id_nd, id_lf]
        refine je ?_
        refine WS.nil ?_
        have hq : (Tr.nd id l a b c .lf).ids.length = l.ids.length + 1 := by (simp only [ids_nd, ids_lf, List.length_append, List.length_cons, List.length_nil]) <;> omega
        refine ⟨.inl rfl, _, rfl, _, rfl, [0,1,2,3,6], trR ps fr lv root len ++ [some ⟨[.sl (some (4, 0)) (l.ids.length + 1) (l.ids.length + 1) true], 51, true⟩, some ⟨cellsR rwVw (viewsT (.nd id l a b c .lf)), 54, true⟩], .tup [], ⟨rfl, rfl, (by simp [jVb, jOb, jMb, mapL_cellsR, okL_cellsR, trR, arR, viewsT, id_nd, id_lf]), rfl⟩, rfl, trivial, rfl, ?_⟩
        rw [hq]; rfl
      | nd i2 l2 x2 y2 z2 r2 =>
        generalize hR : Tr.nd i2 l2 x2 y2 z2 r2 = r at *
        have hrne : r ≠ .lf := by rw [← hR]; simp
        have I1 := ihl hl hlne (by omega)
        have hcl : (viewsT l).length = l.ids.length := by simp [viewsT_len]
        have hl0 : 0 < l.ids.length := by rw [← hL, ids_nd, List.length_append, List.length_cons]; omega
        have V := visitVw1 (viewsT l) id (Tr.id l) (Tr.id r) (1 + ((max (Tr.ht l) (Tr.ht r) : Nat) : Int)) a b c (by omega) (by omega)
        rw [hcl] at V
        have hcl2 : ((viewsT l) ++ [(⟨id, (Tr.id l), (Tr.id r), 1 + ((max (Tr.ht l) (Tr.ht r) : Nat) : Int), a, b, c⟩ : Vw)]).length = l.ids.length + 1 := by simp [viewsT_len, Nat.add_assoc]
        have I2 := walkVw1 ps fr lv root len hm r ((viewsT l) ++ [(⟨id, (Tr.id l), (Tr.id r), 1 + ((max (Tr.ht l) (Tr.ht r) : Nat) : Int), a, b, c⟩ : Vw)]) hr hrne (by omega) (by omega)
        rw [hcl2] at I2
        refine FM.pbodyV (tb := tb) (fn := Try.f36) rfl rfl ?_
        simp only [argS, Nat.reduceAdd, trR, arR, List.length_cons, List.length_nil, List.cons_append, List.nil_append]
        iterate 2 refine jq ?_
        refine jg ?_
        refine jo ?_
        refine jDF ?_
        refine je ?_
        refine WS.pcondF rfl rfl ?_
        refine WS.pskip rfl ?_
        refine jq ?_
        refine jg ?_
        iterate 2 refine jo ?_
        refine jc [0,1,2] G (by simp [jOb, trR, arR, id_nd, id_lf]) (by simp [jEb, jOb, jMb, mapL_cellsR, okL_cellsR, trR, arR, id_nd, id_lf]) ?_; rintro _ _ ⟨rfl, rfl⟩ -; simp only [jPg, jMb, ll, Nat.reduceAdd, Nat.reduceLT, Nat.zero_add, if_true, if_false, Nat.reduceSub, reduceIte, mapL_cellsR, Nat.lt_irrefl, Nat.not_lt_zero, Nat.zero_lt_succ, Nat.lt_add_one, trR, arR, id_nd, id_lf]
        refine jn ?_
        refine js ?_
        refine je ?_
        refine jq ?_
        refine jg ?_
        refine jo ?_
        refine jP ?_
        iterate 2 refine jo ?_
        refine jc [0,1,2,3] I1 (by simp [jOb, trR, arR, id_nd, id_lf]) (by simp [jEb, jOb, jMb, mapL_cellsR, okL_cellsR, trR, arR, id_nd, id_lf]) ?_; rintro _ _ ⟨rfl, rfl⟩ -; simp only [jPg, jMb, ll, Nat.reduceAdd, Nat.reduceLT, Nat.zero_add, if_true, if_false, Nat.reduceSub, reduceIte, mapL_cellsR, Nat.lt_irrefl, Nat.not_lt_zero, Nat.zero_lt_succ, Nat.lt_add_one, trR, arR, id_nd, id_lf]
        refine je ?_
        refine jq ?_
        refine jg ?_
        iterate 2 refine jo ?_
        refine jP ?_
        refine jo ?_
        refine jP ?_
        refine jo ?_
        refine jP ?_
        refine jo ?_
        refine jP ?_
        refine WS.poA (tb := tb) rfl rfl rfl rfl rfl (by simp only [List.drop_zero, List.drop_succ_cons, List.take_succ_cons, List.take_zero, rwPl, rwRn, rwVw]; exact rfl) ?_
        refine WS.poA (tb := tb) rfl rfl rfl rfl rfl (by simp only [vcells, setL, ll, nl, nz, Nat.reduceAdd, Nat.reduceMul, Int.reduceToNat]; exact rfl) ?_
        refine jc [3,5] V (by simp [jOb, trR, arR, id_nd, id_lf]) (by simp [jEb, jOb, jMb, mapL_cellsR, okL_cellsR, trR, arR, id_nd, id_lf]) ?_; rintro _ _ ⟨rfl, rfl⟩ -; simp only [jPg, jMb, ll, Nat.reduceAdd, Nat.reduceLT, Nat.zero_add, if_true, if_false, Nat.reduceSub, reduceIte, mapL_cellsR, Nat.lt_irrefl, Nat.not_lt_zero, Nat.zero_lt_succ, Nat.lt_add_one, trR, arR, id_nd, id_lf]
        refine je ?_
        refine jg ?_
        refine jo ?_
        refine jP ?_
        iterate 2 refine jo ?_
        refine jc [0,1,2,3,6] I2 (by simp [jOb, trR, arR, id_nd, id_lf]) (by simp [jEb, jOb, jMb, mapL_cellsR, okL_cellsR, trR, arR, id_nd, id_lf]) ?_; rintro _ _ ⟨rfl, rfl⟩ -; simp only [jPg, jMb, ll, Nat.reduceAdd, Nat.reduceLT, Nat.zero_add, if_true, if_false, Nat.reduceSub, reduceIte, mapL_cellsR, Nat.lt_irrefl, Nat.not_lt_zero, Nat.zero_lt_succ, Nat.lt_add_one, trR, arR, id_nd, id_lf]
        refine je ?_
        refine WS.nil ?_
        have hq : (Tr.nd id l a b c r).ids.length = l.ids.length + 1 + r.ids.length := by (simp only [ids_nd, ids_lf, List.length_append, List.length_cons, List.length_nil]) <;> omega
        refine ⟨.inl rfl, _, rfl, _, rfl, [0,1,2,3,7], trR ps fr lv root len ++ [some ⟨[.sl (some (4, 0)) (l.ids.length + 1 + r.ids.length) (l.ids.length + 1 + r.ids.length) true], 51, true⟩, some ⟨cellsR rwVw (viewsT (.nd id l a b c r)), 54, true⟩], .tup [], ⟨rfl, rfl, (by simp [jVb, jOb, jMb, mapL_cellsR, okL_cellsR, trR, arR, viewsT, id_nd, id_lf]), rfl⟩, rfl, trivial, rfl, ?_⟩
        rw [hq]; rfl
end Go.Proofs.Ytpogfelbimcglaa.Am

