/- Functions of the tree and of the law TreePlays, walked. Conditions: those of each theorem. -/
import Derived.Test.YtpogfelbimcglaaTr9
namespace Go.Proofs.Ytpogfelbimcglaa.Am
open Go.Proofs
set_option maxRecDepth 1000000
set_option maxHeartbeats 4000000
set_option linter.unusedSimpArgs false
set_option linter.unusedVariables false
theorem ceil_walk (ps : List Pl) (fr lv len k : Int) (T : Tr) (hT : Rep ps T) (hm : ps.length ≤ 600) :
  FM Try.prog 12 [.p (some (2,0)), .i .i64 k] (trR ps fr lv T.id len) (fun v M' => v = .tup [.agg [.i .i64 (oA (ceilT k T none)), .i .i64 (oB (ceilT k T none)), .i .i64 (oC (ceilT k T none))], .b (ceilT k T none).isSome] ∧ M' = trR ps fr lv T.id len) := by
  refine FM.pbodyV (tb := tb) (fn := Try.f12) rfl rfl ?_
  simp only [argS, Nat.reduceAdd, trR, arR, List.length_cons, List.length_nil, List.cons_append, List.nil_append]
  refine jq ?_
  refine jg ?_
  refine jn ?_
  refine jo ?_
  refine je ?_
  iterate 2 refine jq ?_
  refine jg ?_
  iterate 2 refine jo ?_
  refine jP ?_
  iterate 2 refine jo ?_
  refine je ?_
  refine WS.pblock rfl ?_
  refine WS.ploopI (σ := Tr × Option Nd) (τ := Unit) (fun a => [(0, .p (some (2,0))), (1, .i .i64 k), (4, .p (some (3,0))), (5, .b a.2.isSome), (6, .i .u32 a.1.id)])
    (fun a => trR ps fr lv T.id len ++ [some ⟨[.i .i64 (oA a.2), .i .i64 (oB a.2), .i .i64 (oC a.2)], 31, true⟩]) (fun a => Rep ps a.1 ∧ ceilT k a.1 a.2 = ceilT k T none) (fun a => a.1.ht)
    (fun _ => [(4, .p (some (3,0))), (5, .b (ceilT k T none).isSome)]) (fun _ => trR ps fr lv T.id len ++ [some ⟨[.i .i64 (oA (ceilT k T none)), .i .i64 (oB (ceilT k T none)), .i .i64 (oC (ceilT k T none))], 31, true⟩]) (fun _ => True) 0 [0,1,2,3] (T, none) rfl ⟨hT, rfl⟩ (jSb (by simp [jVb, jOb, jMb, mapL_cellsR, okL_cellsR, trR, arR, oA, oB, oC]) (by simp only [jSl, jOb, jMb, Nat.reduceAdd, Nat.reduceLT, trR, arR, oA, oB, oC] <;> exact jClo)) rfl ?_ ?_
  · rintro ⟨U, o⟩ ⟨hU, hF⟩
    simp only [trR, arR, List.cons_append, List.nil_append]
    cases U with
    | lf =>
      simp only [ceilT] at hF
      subst hF
      simp only [id_lf]
      iterate 2 refine jq ?_
      refine jg ?_
      refine jo ?_
      refine jB false ?_
      refine je ?_
      refine WS.pcondF rfl rfl ?_
      refine WS.pout rfl rfl ?_
      exact ⟨rfl, (), trivial, (jSn [0,1,2,3] (by simp [jVb, jOb, jMb, mapL_cellsR, okL_cellsR, trR, arR]) (by simp only [jSl, jOb, jMb, Nat.reduceAdd, Nat.reduceLT, trR, arR] <;> exact jClo))⟩
    | nd id l a b c r =>
      obtain ⟨h0, ⟨nx, hp⟩, hl, hr⟩ := hU
      have G := tget_nd ps fr lv T.id len id _ hp rfl hm
      simp only [ceilT] at hF
      simp only [id_nd]
      by_cases h1 : a ≥ k
      · rw [if_pos h1] at hF
        iterate 2 refine jq ?_
        refine jg ?_
        refine jo ?_
        refine jNT ?_
        refine je ?_
        refine WS.pcondT rfl rfl ?_
        refine WS.pskip rfl ?_
        refine WS.pblock rfl ?_
        refine jq ?_
        refine jg ?_
        iterate 2 refine jo ?_
        refine jc [0,1,2] G (by simp [jOb, trR, arR]) (by simp [jEb, jOb, jMb, mapL_cellsR, okL_cellsR, trR, arR]) ?_; rintro _ _ ⟨rfl, rfl⟩ -; simp only [jPg, jMb, ll, Nat.reduceAdd, Nat.reduceLT, Nat.zero_add, if_true, if_false, Nat.reduceSub, reduceIte, mapL_cellsR, Nat.lt_irrefl, Nat.not_lt_zero, Nat.zero_lt_succ, Nat.lt_add_one, trR, arR]
        refine jn ?_
        refine js ?_
        refine je ?_
        refine jq ?_
        refine jg ?_
        iterate 2 refine jP ?_
        iterate 2 refine jo ?_
        refine jDT ?_
        refine je ?_
        refine WS.pcondT rfl rfl ?_
        refine jq ?_
        refine jg ?_
        refine jP ?_
        refine WS.poA (tb := tb) rfl rfl rfl rfl rfl (by simp only [List.drop_zero, List.drop_succ_cons, List.take_succ_cons, List.take_zero, rwPl]; exact rfl) ?_
        refine js ?_
        refine jo ?_
        refine je ?_
        refine jg ?_
        refine jP ?_
        iterate 2 refine jo ?_
        refine je ?_
        refine WS.bend ?_
        refine WS.nil ?_
        exact ⟨(l, some ⟨id, a, b, c⟩), ⟨hl, hF⟩, by simp only [Tr.ht]; omega, (jSn [0,1,2,3] (by simp [jVb, jOb, jMb, mapL_cellsR, okL_cellsR, trR, arR, oA, oB, oC]) (by simp only [jSl, jOb, jMb, Nat.reduceAdd, Nat.reduceLT, trR, arR, oA, oB, oC] <;> exact jClo))⟩
      · rw [if_neg h1] at hF
        iterate 2 refine jq ?_
        refine jg ?_
        refine jo ?_
        refine jNT ?_
        refine je ?_
        refine WS.pcondT rfl rfl ?_
        refine WS.pskip rfl ?_
        refine WS.pblock rfl ?_
        refine jq ?_
        refine jg ?_
        iterate 2 refine jo ?_
        refine jc [0,1,2] G (by simp [jOb, trR, arR]) (by simp [jEb, jOb, jMb, mapL_cellsR, okL_cellsR, trR, arR]) ?_; rintro _ _ ⟨rfl, rfl⟩ -; simp only [jPg, jMb, ll, Nat.reduceAdd, Nat.reduceLT, Nat.zero_add, if_true, if_false, Nat.reduceSub, reduceIte, mapL_cellsR, Nat.lt_irrefl, Nat.not_lt_zero, Nat.zero_lt_succ, Nat.lt_add_one, trR, arR]
        refine jn ?_
        refine js ?_
        refine je ?_
        refine jq ?_
        refine jg ?_
        iterate 2 refine jP ?_
        iterate 2 refine jo ?_
        refine jDF ?_
        refine je ?_
        refine WS.pcondF rfl rfl ?_
        refine jg ?_
        refine jP ?_
        iterate 2 refine jo ?_
        refine je ?_
        refine WS.bend ?_
        refine WS.nil ?_
        exact ⟨(r, o), ⟨hr, hF⟩, by simp only [Tr.ht]; omega, (jSn [0,1,2,3] (by simp [jVb, jOb, jMb, mapL_cellsR, okL_cellsR, trR, arR, oA, oB, oC]) (by simp only [jSl, jOb, jMb, Nat.reduceAdd, Nat.reduceLT, trR, arR, oA, oB, oC] <;> exact jClo))⟩
  · rintro _ -
    simp only [trR, arR, List.cons_append, List.nil_append]
    refine jq ?_
    refine jg ?_
    refine WS.poA (tb := tb) rfl rfl rfl rfl rfl (by simp only [List.drop_zero, List.drop_succ_cons, List.take_succ_cons, List.take_zero, rwPl]; exact rfl) ?_
    refine jo ?_
    refine js ?_
    refine jo ?_
    refine je ?_
    refine WS.pret rfl ⟨.inr rfl, _, rfl, ?_⟩
    exact ⟨_, rfl, [0,1,2], trR ps fr lv T.id len, .tup [.agg [.i .i64 (oA (ceilT k T none)), .i .i64 (oB (ceilT k T none)), .i .i64 (oC (ceilT k T none))], .b (ceilT k T none).isSome], ⟨rfl, rfl, (by simp [jVb, jOb, jMb, mapL_cellsR, okL_cellsR, trR, arR]), rfl⟩, rfl, by simp [okV, okL], rfl, rfl⟩
/-- The run that begins just there. -/
def findT (k : Int) (T : Tr) : Option Nd := match floorT k T none with
  | none => none
  | some x => if x.a = k then some x else none
theorem find_walk (ps : List Pl) (fr lv len k : Int) (T : Tr) (hT : Rep ps T) (hm : ps.length ≤ 600) :
  FM Try.prog 26 [.p (some (2,0)), .i .i64 k] (trR ps fr lv T.id len) (fun v M' => v = .tup [.agg [.i .i64 (oA (findT k T)), .i .i64 (oB (findT k T)), .i .i64 (oC (findT k T))], .b (findT k T).isSome] ∧ M' = trR ps fr lv T.id len) := by
  have F := floor_walk ps fr lv len k T hT hm
  unfold findT
  cases hf : floorT k T none with
  | none =>
    rw [hf] at F
    refine FM.pbodyV (tb := tb) (fn := Try.f26) rfl rfl ?_
    simp only [argS, Nat.reduceAdd, trR, arR, List.length_cons, List.length_nil, List.cons_append, List.nil_append]
    refine jq ?_
    refine jg ?_
    refine jn ?_
    refine jo ?_
    refine je ?_
    refine jq ?_
    refine jg ?_
    iterate 2 refine jo ?_
    refine jc [0,1,2] F (by simp [jOb, trR, arR]) (by simp [jEb, jOb, jMb, mapL_cellsR, okL_cellsR, trR, arR]) ?_; rintro _ _ ⟨rfl, rfl⟩ -; simp only [jPg, jMb, ll, Nat.reduceAdd, Nat.reduceLT, Nat.zero_add, if_true, if_false, Nat.reduceSub, reduceIte, mapL_cellsR, Nat.lt_irrefl, Nat.not_lt_zero, Nat.zero_lt_succ, Nat.lt_add_one, trR, arR]
    iterate 3 refine jo ?_
    refine jn ?_
    refine js ?_
    refine jo ?_
    refine je ?_
    iterate 2 refine jq ?_
    refine jg ?_
    refine jo ?_
    refine jB true ?_
    refine jo ?_
    iterate 4 refine jN ?_
    refine jo ?_
    refine je ?_
    refine WS.pcondT rfl rfl ?_
    refine jq ?_
    refine jg ?_
    refine WS.poA (tb := tb) rfl rfl rfl rfl rfl (by simp only [vcells, setL, ll, nl, nz, Nat.reduceAdd, Nat.reduceMul, Int.reduceToNat]; exact rfl) ?_
    refine js ?_
    refine jo ?_
    refine je ?_
    refine WS.pret rfl ⟨.inr rfl, _, rfl, ?_⟩
    exact ⟨_, rfl, [0,1,2], trR ps fr lv T.id len, .tup [.agg [.i .i64 0, .i .i64 0, .i .i64 0], .b false], ⟨rfl, rfl, (by simp [jVb, jOb, jMb, mapL_cellsR, okL_cellsR, trR, arR]), rfl⟩, rfl, by simp [okV, okL], rfl, rfl⟩
  | some x =>
    rw [hf] at F
    simp only [oA, oB, oC, Option.isSome_some] at F
    by_cases h : x.a = k
    · simp only [if_pos h]
      refine FM.pbodyV (tb := tb) (fn := Try.f26) rfl rfl ?_
      simp only [argS, Nat.reduceAdd, trR, arR, List.length_cons, List.length_nil, List.cons_append, List.nil_append]
      refine jq ?_
      refine jg ?_
      refine jn ?_
      refine jo ?_
      refine je ?_
      refine jq ?_
      refine jg ?_
      iterate 2 refine jo ?_
      refine jc [0,1,2] F (by simp [jOb, trR, arR]) (by simp [jEb, jOb, jMb, mapL_cellsR, okL_cellsR, trR, arR]) ?_; rintro _ _ ⟨rfl, rfl⟩ -; simp only [jPg, jMb, ll, Nat.reduceAdd, Nat.reduceLT, Nat.zero_add, if_true, if_false, Nat.reduceSub, reduceIte, mapL_cellsR, Nat.lt_irrefl, Nat.not_lt_zero, Nat.zero_lt_succ, Nat.lt_add_one, trR, arR]
      iterate 3 refine jo ?_
      refine jn ?_
      refine js ?_
      refine jo ?_
      refine je ?_
      iterate 2 refine jq ?_
      refine jg ?_
      refine jo ?_
      refine jB false ?_
      refine jo ?_
      refine jP ?_
      iterate 2 refine jo ?_
      refine jNF ?_
      refine jo ?_
      refine je ?_
      refine WS.pcondF rfl rfl ?_
      refine WS.pskip rfl ?_
      refine jq ?_
      refine jg ?_
      refine WS.poA (tb := tb) rfl rfl rfl rfl rfl (by simp only [List.drop_zero, List.drop_succ_cons, List.take_succ_cons, List.take_zero, rwPl]; exact rfl) ?_
      refine js ?_
      refine jo ?_
      refine je ?_
      refine WS.pret rfl ⟨.inr rfl, _, rfl, ?_⟩
      exact ⟨_, rfl, [0,1,2], trR ps fr lv T.id len, .tup [.agg [.i .i64 x.a, .i .i64 x.b, .i .i64 x.c], .b true], ⟨rfl, rfl, (by simp [jVb, jOb, jMb, mapL_cellsR, okL_cellsR, trR, arR]), rfl⟩, rfl, by simp [okV, okL], rfl, rfl⟩
    · simp only [if_neg h]
      refine FM.pbodyV (tb := tb) (fn := Try.f26) rfl rfl ?_
      simp only [argS, Nat.reduceAdd, trR, arR, List.length_cons, List.length_nil, List.cons_append, List.nil_append]
      refine jq ?_
      refine jg ?_
      refine jn ?_
      refine jo ?_
      refine je ?_
      refine jq ?_
      refine jg ?_
      iterate 2 refine jo ?_
      refine jc [0,1,2] F (by simp [jOb, trR, arR]) (by simp [jEb, jOb, jMb, mapL_cellsR, okL_cellsR, trR, arR]) ?_; rintro _ _ ⟨rfl, rfl⟩ -; simp only [jPg, jMb, ll, Nat.reduceAdd, Nat.reduceLT, Nat.zero_add, if_true, if_false, Nat.reduceSub, reduceIte, mapL_cellsR, Nat.lt_irrefl, Nat.not_lt_zero, Nat.zero_lt_succ, Nat.lt_add_one, trR, arR]
      iterate 3 refine jo ?_
      refine jn ?_
      refine js ?_
      refine jo ?_
      refine je ?_
      iterate 2 refine jq ?_
      refine jg ?_
      refine jo ?_
      refine jB false ?_
      refine jo ?_
      refine jP ?_
      iterate 2 refine jo ?_
      refine jNT ?_
      refine jo ?_
      refine je ?_
      refine WS.pcondT rfl rfl ?_
      refine jq ?_
      refine jg ?_
      refine WS.poA (tb := tb) rfl rfl rfl rfl rfl (by simp only [vcells, setL, ll, nl, nz, Nat.reduceAdd, Nat.reduceMul, Int.reduceToNat]; exact rfl) ?_
      refine js ?_
      refine jo ?_
      refine je ?_
      refine WS.pret rfl ⟨.inr rfl, _, rfl, ?_⟩
      exact ⟨_, rfl, [0,1,2], trR ps fr lv T.id len, .tup [.agg [.i .i64 0, .i .i64 0, .i .i64 0], .b false], ⟨rfl, rfl, (by simp [jVb, jOb, jMb, mapL_cellsR, okL_cellsR, trR, arR]), rfl⟩, rfl, by simp [okV, okL], rfl, rfl⟩
theorem tnew_walk (ps : List Pl) (fr lv : Int) : FM Try.prog 9 [.p (some (1,0))] (arM ps fr lv) (fun v M' => v = .p (some (2,0)) ∧ M' = trM ps fr lv 0 0) := by
  refine FM.pbody (tb := tb) (fn := Try.f9) rfl rfl ?_
  simp only [argS, Nat.reduceAdd, arM, List.length_cons, List.length_nil]
  refine jq ?_
  refine jg ?_
  refine jo ?_
  refine je ?_
  refine jq ?_
  refine jg ?_
  refine jo ?_
  refine WS.poA (tb := tb) rfl rfl rfl rfl rfl (by simp only [vcells, setL, ll, nl, nz, Nat.reduceAdd, Nat.reduceMul, Int.reduceToNat]; exact rfl) ?_
  refine jn ?_
  refine jo ?_
  refine je ?_
  refine WS.pret rfl ⟨.inr rfl, _, rfl, ?_⟩
  exact ⟨_, rfl, rfl, rfl⟩
theorem tlen_walk (ps : List Pl) (fr lv root len : Int) : FM Try.prog 15 [.p (some (2,0))] (trR ps fr lv root len) (fun v M' => v = .i .i64 len ∧ M' = trR ps fr lv root len) := by
  refine FM.pbody (tb := tb) (fn := Try.f15) rfl rfl ?_
  simp only [argS, Nat.reduceAdd, trR, arR, List.length_cons, List.length_nil, List.cons_append, List.nil_append]
  refine jq ?_
  refine jg ?_
  refine jo ?_
  refine je ?_
  refine jq ?_
  refine jg ?_
  iterate 2 refine jo ?_
  refine jP ?_
  iterate 2 refine jo ?_
  refine je ?_
  refine WS.pret rfl ⟨.inr rfl, _, rfl, ?_⟩
  exact ⟨_, rfl, rfl, rfl⟩
theorem troot_walk (ps : List Pl) (fr lv root len : Int) : FM Try.prog 16 [.p (some (2,0))] (trR ps fr lv root len) (fun v M' => v = .i .u32 root ∧ M' = trR ps fr lv root len) := by
  refine FM.pbody (tb := tb) (fn := Try.f16) rfl rfl ?_
  simp only [argS, Nat.reduceAdd, trR, arR, List.length_cons, List.length_nil, List.cons_append, List.nil_append]
  refine jq ?_
  refine jg ?_
  refine jo ?_
  refine je ?_
  refine jq ?_
  refine jg ?_
  iterate 2 refine jo ?_
  refine jP ?_
  iterate 2 refine jo ?_
  refine je ?_
  refine WS.pret rfl ⟨.inr rfl, _, rfl, ?_⟩
  exact ⟨_, rfl, rfl, rfl⟩
/-- One run is set. -/
def chgT (a b c : Int) : Tr → Tr
  | .lf => .lf
  | .nd id l x y z r => if a < x then .nd id (chgT a b c l) x y z r else if x < a then .nd id l x y z (chgT a b c r) else .nd id l a b c r
theorem chgT_id (a b c : Int) (T : Tr) : (chgT a b c T).id = T.id := by
  cases T with
  | lf => rfl
  | nd id l x y z r => simp only [chgT]; split; · rfl
                       split <;> rfl
theorem chgT_ht (a b c : Int) : ∀ T : Tr, (chgT a b c T).ht = T.ht
  | .lf => rfl
  | .nd id l x y z r => by
    simp only [chgT]; split
    · simp only [Tr.ht, chgT_ht a b c l]
    · split
      · simp only [Tr.ht, chgT_ht a b c r]
      · rfl
theorem chgT_ids (a b c : Int) : ∀ T : Tr, (chgT a b c T).ids = T.ids
  | .lf => rfl
  | .nd id l x y z r => by
    simp only [chgT]; split
    · simp only [ids_nd, chgT_ids a b c l]
    · split
      · simp only [ids_nd, chgT_ids a b c r]
      · simp only [ids_nd]
/-- Behind the node that holds the key. -/
theorem chgT_rep {ps : List Pl} {a b c : Int} : ∀ {T : Tr} {p : Pl}, Rep ps T → T.ids.Nodup → fid a T ≠ 0 → ps[fid a T]? = some p → Rep (ps.set (fid a T) ⟨true, p.next, p.l, p.r, p.h, a, b, c⟩) (chgT a b c T)
  | .lf, _, _, _, h, _ => absurd rfl h
  | .nd id l x y z r, p, hT, hd, hf, hp => by
    obtain ⟨h0, ⟨nx, hq⟩, hl, hr⟩ := hT
    have hd' := hd
    simp only [ids_nd, List.nodup_append, List.nodup_cons, List.mem_cons, ne_eq] at hd'
    obtain ⟨dl, ⟨dir, dr⟩, d5⟩ := hd'
    have dil : id ∉ l.ids := fun e => (d5 id e id (by simp)) rfl
    simp only [fid, chgT] at hf hp ⊢
    by_cases h1 : a < x
    · simp only [if_pos h1] at hf hp ⊢
      have m := fid_mem a l hf
      refine ⟨h0, ⟨nx, ?_⟩, chgT_rep hl dl hf hp, rep_keep hr fun e => d5 _ m _ (.inr e) rfl⟩
      rw [set_other (fun e => dil (by rw [← e]; exact m)), hq, chgT_id, chgT_ht]
    · simp only [if_neg h1] at hf hp ⊢
      by_cases h2 : x < a
      · simp only [if_pos h2] at hf hp ⊢
        have m := fid_mem a r hf
        refine ⟨h0, ⟨nx, ?_⟩, rep_keep hl fun e => d5 _ e _ (.inr m) rfl, chgT_rep hr dr hf hp⟩
        rw [set_other (fun e => dir (by rw [← e]; exact m)), hq, chgT_id, chgT_ht]
      · simp only [if_neg h2] at hf hp ⊢
        rw [hq] at hp
        obtain rfl := Option.some.inj hp
        exact ⟨h0, ⟨nx, set_same hq⟩, rep_keep hl dil, rep_keep hr dir⟩
end Go.Proofs.Ytpogfelbimcglaa.Am

