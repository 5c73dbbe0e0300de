/- Functions of the tree and of the law TreePlays, walked. Conditions: those of each theorem. -/
import Derived.Test.YtpogfelbimcglaaTr0
namespace Go.Proofs.Ytpogfelbimcglaa.Am
open Go.Proofs
set_option maxRecDepth 1000000
set_option maxHeartbeats 4000000
set_option linter.unusedSimpArgs false
set_option linter.unusedVariables false
def trM (ps : List Pl) (fr lv root len : Int) : List (Option Blk) := arM ps fr lv ++ [some ⟨[.p (some (1,0)), .i .u32 root, .i .i64 len], 66, true⟩]
def trR (ps : List Pl) (fr lv root len : Int) : List (Option Blk) := arR ps fr lv ++ [some ⟨[.p (some (1,0)), .i .u32 root, .i .i64 len], 66, false⟩]
theorem tget_nd (ps : List Pl) (fr lv root len : Int) (id : Nat) (p : Pl) (hp : ps[id]? = some p) (hl : p.live = true) (hm : ps.length ≤ 600) :
  FM Try.prog 30 [.p (some (2,0)), .i .u32 id] (trR ps fr lv root len) (fun v M' => v = .agg [.i .u32 p.l, .i .u32 p.r, .i .i64 p.h, .i .i64 p.a, .i .i64 p.b, .i .i64 p.c] ∧ M' = trR ps fr lv root len) := by
  refine FM.pbodyV (tb := tb) (fn := Try.f30) rfl rfl ?_
  simp only [argS, Nat.reduceAdd, trR, arR, List.length_cons, List.length_nil, List.cons_append, List.nil_append]
  refine jq ?_
  refine jg ?_
  refine jn ?_
  refine je ?_
  refine jq ?_
  refine jg ?_
  iterate 2 refine jo ?_
  refine jP ?_
  iterate 2 refine jo ?_
  refine jc [0,1] (ar_get_yes ps id fr lv p hp hl hm) (by simp [jOb, arR]) (by simp [jEb, jOb, jMb, mapL_cellsR, okL_cellsR, arR]) ?_; rintro _ _ ⟨rfl, rfl⟩ -; simp only [jPg, jMb, ll, Nat.reduceAdd, Nat.reduceLT, Nat.zero_add, if_true, if_false, Nat.reduceSub, reduceIte, mapL_cellsR, Nat.lt_irrefl, Nat.not_lt_zero, Nat.zero_lt_succ, Nat.lt_add_one, arR]
  iterate 3 refine jo ?_
  refine jn ?_
  refine js ?_
  refine jo ?_
  refine je ?_
  refine jq ?_
  refine jg ?_
  refine WS.poA (tb := tb) rfl rfl rfl rfl rfl (by simp only [List.drop_zero, List.drop_succ_cons, List.take_succ_cons, List.take_zero, rwPl]; exact rfl) ?_
  refine js ?_
  refine je ?_
  refine WS.pret rfl ⟨.inr rfl, _, rfl, ?_⟩
  exact ⟨_, rfl, [0,1,2], trR ps fr lv root len, .agg [.i .u32 p.l, .i .u32 p.r, .i .i64 p.h, .i .i64 p.a, .i .i64 p.b, .i .i64 p.c], ⟨rfl, rfl, (by simp [jVb, jOb, jMb, mapL_cellsR, okL_cellsR, trR, arR]), rfl⟩, rfl, by simp [okV, okL], rfl, rfl⟩
theorem tget_no (ps : List Pl) (fr lv root len : Int) (hz : Zero ps) (hm : ps.length ≤ 600) :
  FM Try.prog 30 [.p (some (2,0)), .i .u32 (0 : Nat)] (trR ps fr lv root len) (fun v M' => v = .agg [.i .u32 0, .i .u32 0, .i .i64 0, .i .i64 0, .i .i64 0, .i .i64 0] ∧ M' = trR ps fr lv root len) := by
  refine FM.pbodyV (tb := tb) (fn := Try.f30) rfl rfl ?_
  simp only [argS, Nat.reduceAdd, trR, arR, List.length_cons, List.length_nil, List.cons_append, List.nil_append]
  refine jq ?_
  refine jg ?_
  refine jn ?_
  refine je ?_
  refine jq ?_
  refine jg ?_
  iterate 2 refine jo ?_
  refine jP ?_
  iterate 2 refine jo ?_
  refine jc [0,1] (ar_get_no ps 0 fr lv hz hm (by omega)) (by simp [jOb, arR]) (by simp [jEb, jOb, jMb, mapL_cellsR, okL_cellsR, arR]) ?_; rintro _ _ ⟨rfl, rfl⟩ -; simp only [jPg, jMb, ll, Nat.reduceAdd, Nat.reduceLT, Nat.zero_add, if_true, if_false, Nat.reduceSub, reduceIte, mapL_cellsR, Nat.lt_irrefl, Nat.not_lt_zero, Nat.zero_lt_succ, Nat.lt_add_one, arR]
  iterate 3 refine jo ?_
  refine jn ?_
  refine js ?_
  refine jo ?_
  refine je ?_
  refine jq ?_
  refine jg ?_
  refine WS.poA (tb := tb) rfl rfl rfl rfl rfl (by simp only [List.drop_zero, List.drop_succ_cons, List.take_succ_cons, List.take_zero, rwPl]; exact rfl) ?_
  refine js ?_
  refine je ?_
  refine WS.pret rfl ⟨.inr rfl, _, rfl, ?_⟩
  exact ⟨_, rfl, [0,1,2], trR ps fr lv root len, .agg [.i .u32 0, .i .u32 0, .i .i64 0, .i .i64 0, .i .i64 0, .i .i64 0], ⟨rfl, rfl, (by simp [jVb, jOb, jMb, mapL_cellsR, okL_cellsR, trR, arR]), rfl⟩, rfl, by simp [okV, okL], rfl, rfl⟩
theorem height_walk (ps : List Pl) (fr lv root len : Int) (T : Tr) (hT : Rep ps T) (hz : Zero ps) (hm : ps.length ≤ 600) :
  FM Try.prog 39 [.p (some (2,0)), .i .u32 T.id] (trR ps fr lv root len) (fun v M' => v = .i .i64 T.ht ∧ M' = trR ps fr lv root len) := by
  refine FM.pbody (tb := tb) (fn := Try.f39) rfl rfl ?_
  simp only [argS, Nat.reduceAdd, trR, arR, List.length_cons, List.length_nil, List.cons_append, List.nil_append]
  cases T with
  | lf =>
    simp only [Tr.id]
    refine jq ?_
    refine jg ?_
    refine jo ?_
    refine je ?_
    refine jq ?_
    refine jg ?_
    iterate 2 refine jo ?_
    refine jc [0,1,2] (tget_no ps fr lv root len hz hm) (by simp [jOb, trR, arR]) (by simp [jEb, jOb, jMb, mapL_cellsR, okL_cellsR, trR, arR]) ?_; rintro _ _ ⟨rfl, rfl⟩ -; simp only [jPg, jMb, ll, Nat.reduceAdd, Nat.reduceLT, Nat.zero_add, if_true, if_false, Nat.reduceSub, reduceIte, mapL_cellsR, Nat.lt_irrefl, Nat.not_lt_zero, Nat.zero_lt_succ, Nat.lt_add_one, trR, arR]
    iterate 2 refine jo ?_
    refine je ?_
    refine WS.pret rfl ⟨.inr rfl, _, rfl, ?_⟩
    exact ⟨_, rfl, rfl, by simp [trR, arR]⟩
  | nd id l a b c r =>
    obtain ⟨h0, ⟨nx, hp⟩, _, _⟩ := hT
    simp only [Tr.id]
    refine jq ?_
    refine jg ?_
    refine jo ?_
    refine je ?_
    refine jq ?_
    refine jg ?_
    iterate 2 refine jo ?_
    refine jc [0,1,2] (tget_nd ps fr lv root len id _ hp rfl hm) (by simp [jOb, trR, arR]) (by simp [jEb, jOb, jMb, mapL_cellsR, okL_cellsR, trR, arR]) ?_; rintro _ _ ⟨rfl, rfl⟩ -; simp only [jPg, jMb, ll, Nat.reduceAdd, Nat.reduceLT, Nat.zero_add, if_true, if_false, Nat.reduceSub, reduceIte, mapL_cellsR, Nat.lt_irrefl, Nat.not_lt_zero, Nat.zero_lt_succ, Nat.lt_add_one, trR, arR]
    iterate 2 refine jo ?_
    refine je ?_
    refine WS.pret rfl ⟨.inr rfl, _, rfl, ?_⟩
    exact ⟨_, rfl, by simp [Tr.ht], by simp [trR, arR]⟩
theorem tput_walk (ps : List Pl) (fr lv root len : Int) (id : Nat) (p : Pl) (L R : Tr) (h0 a b c : Int) (hp : ps[id]? = some p) (hl : p.live = true) (hL : Rep ps L) (hR : Rep ps R) (hz : Zero ps) (hm : ps.length ≤ 600) (bL : L.ht ≤ 1000) (bR : R.ht ≤ 1000) :
  FM Try.prog 28 [.p (some (2,0)), .i .u32 id, .agg [.i .u32 L.id, .i .u32 R.id, .i .i64 h0, .i .i64 a, .i .i64 b, .i .i64 c]] (trM ps fr lv root len) (fun v M' => v = .i .u32 id ∧ M' = trM (ps.set id ⟨true, p.next, L.id, R.id, (1 + ((max L.ht R.ht : Nat) : Int)), a, b, c⟩) fr lv root len) := by
  refine FM.pbodyV (tb := tb) (fn := Try.f28) rfl rfl ?_
  simp only [argS, Nat.reduceAdd, trM, arM, List.length_cons, List.length_nil, List.cons_append, List.nil_append]
  have H1 := height_walk ps fr lv root len L hL hz hm
  have H2 := height_walk ps fr lv root len R hR hz hm
  have hq : ([.p (some (2,0)), .i .u32 (R.id : Int)] : List V) = [.p (some (2,0)), .i .u32 (L.id : Int)] → V.i .i64 L.ht = V.i .i64 R.ht := fun h => by
    simp only [List.cons.injEq, V.i.injEq, true_and, and_true] at h
    rw [hL.same_ht hR (by omega)]
  have P1 := ar_put_yes ps id fr lv p L.id R.id (1 + ((max L.ht R.ht : Nat) : Int)) a b c hp hl hm
  have hmx : V.i .i64 (if True then if (R.ht : Int) > L.ht then (R.ht : Int) else L.ht else if (R.ht : Int) < L.ht then (R.ht : Int) else L.ht) = V.i .i64 ((max L.ht R.ht : Nat) : Int) := by
    rw [if_pos trivial]; split
    · rw [Nat.max_eq_right (by omega)]
    · rw [Nat.max_eq_left (by omega)]
  refine jq ?_
  refine jg ?_
  refine jn ?_
  refine jo ?_
  refine je ?_
  refine jq ?_
  refine WS.pdrawQ2 (tb := tb) [0,1,2] [0,1,2] H1 H2 (by exact rfl) (by kernel_rfl) rfl (by kernel_rfl) (by kernel_rfl) (by (try simp only [mapL, mapV, ll]) <;> exact rfl) (by simp [okL, okV, trR, arR, arM]; fail_if_success exfalso) (by simp [embP, okL, okV, mapL, mapV, lockH, mem_next, mem_get, mem_ro, mapL_cellsR, okL_cellsR, trR, arR, arM] <;> simp [LH.get, mem, memT, T.get, T.put, T.setF]; fail_if_success exfalso) rfl (by first | trivial | simp [okV, okL]) (by (try simp only [mapL, mapV, ll]) <;> exact rfl) (by simp [okL, okV, trR, arR, arM]; fail_if_success exfalso) (by simp [embP, okL, okV, mapL, mapV, lockH, mem_next, mem_get, mem_ro, mapL_cellsR, okL_cellsR, trR, arR, arM] <;> simp [LH.get, mem, memT, T.get, T.put, T.setF]; fail_if_success exfalso) rfl (by first | trivial | simp [okV, okL]) (fun _ _ => ?_)
  refine jp ?_
  refine jd ?_
  refine jr ?_
  refine WD.r (tb := tb) rfl rfl rfl rfl (evQ_call rfl rfl rfl rfl rfl) ?_
  refine jp ?_
  refine jd ?_
  refine jr ?_
  refine WD.r (tb := tb) rfl rfl rfl rfl (evQ_call2 rfl rfl rfl rfl rfl (fun _ h => hq h)) ?_
  refine WD.pV (tb := tb) rfl rfl rfl rfl rfl hmx ?_
  refine jw ?_
  refine jd ?_
  refine WD.e0 (tb := tb) rfl rfl rfl rfl rfl (evE_H (evH_store rfl rfl rfl rfl rfl (Nat.zero_le _) rfl (by simp [vcells]) (Nat.le_of_ble_eq_true rfl))) ?_; rw [upd_mem _ rfl]; simp only [vcells, setL, ll]
  refine WD.fin rfl ?_
  refine jq ?_
  refine WS.pdrawE (tb := tb) [0,1] P1 (by exact rfl) (by kernel_rfl) rfl (by kernel_rfl) (by kernel_rfl) (by (try simp only [mapL, mapV, ll]) <;> exact rfl) (by simp [okL, okV, trR, arR, arM]; fail_if_success exfalso) rfl (by simp [embP, okL, okV, mapL, mapV, mem_next, mem_get, mem_ro, mapL_cellsR, okL_cellsR, trR, arR, arM]; fail_if_success exfalso) rfl ?_
  iterate 2 refine jp ?_
  refine jd ?_
  refine jr ?_
  refine jp ?_
  refine WD.rA (tb := tb) rfl rfl rfl rfl rfl (by simp only [List.drop_zero, List.drop_succ_cons, List.take_succ_cons, List.take_zero, rwPl]; exact rfl) ?_
  refine WD.ecall (tb := tb) rfl rfl rfl rfl rfl rfl rfl rfl rfl ?_; simp only [jPg, jMb, ll, Nat.reduceAdd, Nat.reduceLT, Nat.zero_add, if_true, if_false, Nat.reduceSub, reduceIte, mapL_cellsR, Nat.lt_irrefl, Nat.not_lt_zero, Nat.zero_lt_succ, Nat.lt_add_one, trR, arR, arM]
  refine WD.fin rfl ?_
  refine jq ?_
  refine jg ?_
  iterate 2 refine jo ?_
  refine je ?_
  refine WS.pret rfl ⟨.inr rfl, _, rfl, ?_⟩
  exact ⟨_, rfl, [0,1,2], trM (ps.set id ⟨true, p.next, L.id, R.id, (1 + ((max L.ht R.ht : Nat) : Int)), a, b, c⟩) fr lv root len, .i .u32 id, ⟨rfl, rfl, (by simp [jVb, jOb, jMb, mapL_cellsR, okL_cellsR, trM, arM, List.length_set]), rfl⟩, rfl, trivial, rfl, rfl⟩
end Go.Proofs.Ytpogfelbimcglaa.Am

