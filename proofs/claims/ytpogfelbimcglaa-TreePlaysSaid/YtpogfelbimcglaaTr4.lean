/- Functions of the tree and of the law TreePlays, walked. Conditions: those of each theorem. -/
import Derived.Test.YtpogfelbimcglaaTr3
namespace Go.Proofs.Ytpogfelbimcglaa.Am
open Go.Proofs
set_option maxRecDepth 1000000
set_option maxHeartbeats 4000000
set_option linter.unusedSimpArgs false
set_option linter.unusedVariables false
theorem bal_plain (ps : List Pl) (fr lv root len : Int) (id : Nat) (p : Pl) (L R : Tr) (h9 a b c : Int) (hp : ps[id]? = some p) (hlv : p.live = true) (h0 : 0 < id) (hL : Rep ps L) (hR : Rep ps R) (hd : (L.ids ++ id :: R.ids).Nodup) (hz : Zero ps) (hm : ps.length ≤ 600) (bL : L.ht ≤ 800) (bR : R.ht ≤ 800)
    (c1 : ¬ R.ht + 1 < L.ht) (c2 : ¬ L.ht + 1 < R.ht) :
  FM Try.prog 40 [.p (some (2,0)), .i .u32 id, .agg [.i .u32 L.id, .i .u32 R.id, .i .i64 h9, .i .i64 a, .i .i64 b, .i .i64 c]] (trM ps fr lv root len)
    (fun v M' => v = .i .u32 id ∧ ∃ ps', M' = trM ps' fr lv root len ∧ Post ps ps' (L.ids ++ id :: R.ids) (.nd id L a b c R)) := by
  have hd' := hd
  simp only [List.nodup_append, List.nodup_cons, List.mem_cons, ne_eq] at hd'
  obtain ⟨dL, ⟨dR, d4⟩, d5⟩ := hd'
  have hiL : id ∉ L.ids := fun e => (d5 id e id (by simp)) rfl
  have P1 := tput_walk ps fr lv root len id _ L R h9 a b c hp hlv hL hR hz hm (by omega) (by omega)
  have S1 := rep_set (a := a) (b := b) (c := c) hp h0 hL hR hiL dR _ rfl
  have F1 := (Fr.set hp ⟨true, p.next, L.id, R.id, (1 + ((max L.ht R.ht : Nat) : Int)), a, b, c⟩ rfl).mono (J := L.ids ++ id :: R.ids) (by simp)
  generalize hps1 : ps.set id ⟨true, p.next, L.id, R.id, (1 + ((max L.ht R.ht : Nat) : Int)), a, b, c⟩ = ps1 at P1 S1 F1
  have hz1 : Zero ps1 := by rw [← hps1]; exact zero_set h0 hz
  have hlen1 : ps1.length = ps.length := by rw [← hps1]; simp
  have H1 := height_walk ps1 fr lv root len L S1.2.2.1 hz1 (by omega)
  have H2 := height_walk ps1 fr lv root len R S1.2.2.2 hz1 (by omega)
  have hq : ([.p (some (2,0)), .i .u32 (R.id : Int)] : List V) = [.p (some (2,0)), .i .u32 (L.id : Int)] → V.i .i64 L.ht = V.i .i64 R.ht := fun h => by
    simp only [List.cons.injEq, V.i.injEq, true_and, and_true] at h
    rw [hL.same_ht hR (by omega)]
  refine FM.pbodyV (tb := tb) (fn := Try.f40) rfl rfl ?_
  simp only [argS, Nat.reduceAdd, trM, arM, List.length_cons, List.length_nil, List.cons_append, List.nil_append]
  refine jq ?_
  refine jg ?_
  refine jn ?_
  refine jo ?_
  refine je ?_
  refine jq ?_
  refine jg ?_
  iterate 2 refine jo ?_
  refine WS.poA (tb := tb) rfl rfl rfl rfl rfl (by simp only [List.drop_zero, List.drop_succ_cons, List.take_succ_cons, List.take_zero, rwPl]; exact rfl) ?_
  refine jc [0,1,2] P1 (by simp [jOb, trR, arR, trM, arM]) (by simp [jEb, jOb, jMb, mapL_cellsR, okL_cellsR, trR, arR, trM, arM]) ?_; rintro _ _ ⟨rfl, rfl⟩ -; simp only [jPg, jMb, ll, Nat.reduceAdd, Nat.reduceLT, Nat.zero_add, if_true, if_false, Nat.reduceSub, reduceIte, mapL_cellsR, Nat.lt_irrefl, Nat.not_lt_zero, Nat.zero_lt_succ, Nat.lt_add_one, trR, arR, trM, arM]
  refine je ?_
  iterate 2 refine jq ?_
  refine WS.pdrawQ2 (tb := tb) [0,1,2] [0,1,2] H1 H2 (by exact rfl) (by kernel_rfl) rfl (by kernel_rfl) (by kernel_rfl) (by (try simp only [mapL, mapV, ll]) <;> exact rfl) (by simp [okL, okV, trR, arR, trM, arM]; fail_if_success exfalso) (by simp [embP, okL, okV, mapL, mapV, lockH, mem_next, mem_get, mem_ro, mapL_cellsR, okL_cellsR, trR, arR, trM, arM] <;> simp [LH.get, mem, memT, T.get, T.put, T.setF]; fail_if_success exfalso) rfl (by first | trivial | simp [okV, okL]) (by (try simp only [mapL, mapV, ll]) <;> exact rfl) (by simp [okL, okV, trR, arR, trM, arM]; fail_if_success exfalso) (by simp [embP, okL, okV, mapL, mapV, lockH, mem_next, mem_get, mem_ro, mapL_cellsR, okL_cellsR, trR, arR, trM, arM] <;> simp [LH.get, mem, memT, T.get, T.put, T.setF]; fail_if_success exfalso) rfl (by first | trivial | simp [okV, okL]) (fun _ _ => ?_)
  refine jp ?_
  refine jd ?_
  refine jr ?_
  refine WD.r (tb := tb) rfl rfl rfl rfl (evQ_call rfl rfl rfl rfl rfl) ?_
  refine jp ?_
  refine jd ?_
  refine jr ?_
  refine WD.r (tb := tb) rfl rfl rfl rfl (evQ_call2 rfl rfl rfl rfl rfl (fun _ h => hq h)) ?_
  refine jw ?_
  refine jp ?_
  refine WD.fin rfl ?_
  refine WS.pblock rfl ?_
  refine jq ?_
  refine jg ?_
  refine jo ?_
  refine jDF ?_
  refine jo ?_
  refine je ?_
  refine WS.pcondF rfl rfl ?_
  refine jq ?_
  refine jg ?_
  refine jo ?_
  refine jDF ?_
  refine jo ?_
  refine je ?_
  refine WS.pcondF rfl rfl ?_
  refine WS.pskip rfl ?_
  refine jq ?_
  refine jg ?_
  iterate 2 refine jo ?_
  refine je ?_
  refine WS.pret rfl ⟨.inr rfl, _, rfl, ?_⟩
  exact ⟨_, rfl, [0,1,2], trM ps1 fr lv root len, .i .u32 id, ⟨rfl, rfl, (by simp [jVb, jOb, jMb, mapL_cellsR, okL_cellsR, trM, arM]), rfl⟩, rfl, trivial, rfl, _, rfl, S1, F1⟩
theorem bal_r1 (ps : List Pl) (fr lv root len : Int) (id : Nat) (p : Pl) (i1 : Nat) (l1 r1 : Tr) (x y z : Int) (R : Tr) (h9 a b c : Int) (hp : ps[id]? = some p) (hlv : p.live = true) (h0 : 0 < id) (hL : Rep ps (.nd i1 l1 x y z r1)) (hR : Rep ps R) (hd : ((Tr.nd i1 l1 x y z r1).ids ++ id :: R.ids).Nodup) (hz : Zero ps) (hm : ps.length ≤ 600) (bL : (Tr.nd i1 l1 x y z r1).ht ≤ 800) (bR : R.ht ≤ 800)
    (c1 : R.ht + 1 < (Tr.nd i1 l1 x y z r1).ht) (c2 : ¬ l1.ht < r1.ht) :
  FM Try.prog 40 [.p (some (2,0)), .i .u32 id, .agg [.i .u32 (Tr.nd i1 l1 x y z r1).id, .i .u32 R.id, .i .i64 h9, .i .i64 a, .i .i64 b, .i .i64 c]] (trM ps fr lv root len)
    (fun v M' => v = .i .u32 i1 ∧ ∃ ps', M' = trM ps' fr lv root len ∧ Post ps ps' ((Tr.nd i1 l1 x y z r1).ids ++ id :: R.ids) (.nd i1 l1 x y z (.nd id r1 a b c R))) := by
  generalize hLL : Tr.nd i1 l1 x y z r1 = L at *
  have hd' := hd
  simp only [List.nodup_append, List.nodup_cons, List.mem_cons, ne_eq] at hd'
  obtain ⟨dL, ⟨dR, d4⟩, d5⟩ := hd'
  have hiL : id ∉ L.ids := fun e => (d5 id e id (by simp)) rfl
  have P1 := tput_walk ps fr lv root len id _ L R h9 a b c hp hlv hL hR hz hm (by omega) (by omega)
  have S1 := rep_set (a := a) (b := b) (c := c) hp h0 hL hR hiL dR _ rfl
  have F1 := (Fr.set hp ⟨true, p.next, L.id, R.id, (1 + ((max L.ht R.ht : Nat) : Int)), a, b, c⟩ rfl).mono (J := L.ids ++ id :: R.ids) (by simp)
  generalize hps1 : ps.set id ⟨true, p.next, L.id, R.id, (1 + ((max L.ht R.ht : Nat) : Int)), a, b, c⟩ = ps1 at P1 S1 F1
  have hz1 : Zero ps1 := by rw [← hps1]; exact zero_set h0 hz
  have hlen1 : ps1.length = ps.length := by rw [← hps1]; simp
  have hL1 := S1.2.2.1
  have H1 := height_walk ps1 fr lv root len L hL1 hz1 (by omega)
  have H2 := height_walk ps1 fr lv root len R S1.2.2.2 hz1 (by omega)
  have hq : ([.p (some (2,0)), .i .u32 (R.id : Int)] : List V) = [.p (some (2,0)), .i .u32 (L.id : Int)] → V.i .i64 L.ht = V.i .i64 R.ht := fun h => by
    simp only [List.cons.injEq, V.i.injEq, true_and, and_true] at h
    rw [hL.same_ht hR (by omega)]
  rw [← hLL] at hL1
  obtain ⟨h01, ⟨nx1, hp1⟩, hl1, hr1⟩ := hL1
  have G1 := tget_nd ps1 fr lv root len i1 _ hp1 rfl (by omega)
  have H3 := height_walk ps1 fr lv root len l1 hl1 hz1 (by omega)
  have H4 := height_walk ps1 fr lv root len r1 hr1 hz1 (by omega)
  have hq2 : ([.p (some (2,0)), .i .u32 (r1.id : Int)] : List V) = [.p (some (2,0)), .i .u32 (l1.id : Int)] → V.i .i64 l1.ht = V.i .i64 r1.ht := fun h => by
    simp only [List.cons.injEq, V.i.injEq, true_and, and_true] at h
    rw [hl1.same_ht hr1 (by omega)]
  have hLid : L.id = i1 := by rw [← hLL]; rfl
  rw [hLid] at P1 H1 hq ⊢
  have R1 := right_walk ps1 fr lv root len id i1 l1 r1 R a b c x y z (by rw [hLL]; exact S1) (by rw [hLL, ids_nd]; exact hd) hz1 (by omega) (by rw [hLL]; simp only [Tr.ht]; omega)
  refine FM.pbodyV (tb := tb) (fn := Try.f40) rfl rfl ?_
  simp only [argS, Nat.reduceAdd, trM, arM, List.length_cons, List.length_nil, List.cons_append, List.nil_append]
  refine jq ?_
  refine jg ?_
  refine jn ?_
  refine jo ?_
  refine je ?_
  refine jq ?_
  refine jg ?_
  iterate 2 refine jo ?_
  refine WS.poA (tb := tb) rfl rfl rfl rfl rfl (by simp only [List.drop_zero, List.drop_succ_cons, List.take_succ_cons, List.take_zero, rwPl]; exact rfl) ?_
  refine jc [0,1,2] P1 (by simp [jOb, trR, arR, trM, arM]) (by simp [jEb, jOb, jMb, mapL_cellsR, okL_cellsR, trR, arR, trM, arM]) ?_; rintro _ _ ⟨rfl, rfl⟩ -; simp only [jPg, jMb, ll, Nat.reduceAdd, Nat.reduceLT, Nat.zero_add, if_true, if_false, Nat.reduceSub, reduceIte, mapL_cellsR, Nat.lt_irrefl, Nat.not_lt_zero, Nat.zero_lt_succ, Nat.lt_add_one, trR, arR, trM, arM]
  refine je ?_
  iterate 2 refine jq ?_
  refine WS.hasD 7 rfl ?_; refine WS.pdrawQ2 (tb := tb) [0,1,2] [0,1,2] H1 H2 (by exact rfl) (by kernel_rfl) rfl (by kernel_rfl) (by kernel_rfl) (by (try simp only [mapL, mapV, ll]) <;> exact rfl) (by simp [okL, okV, trR, arR, trM, arM]; fail_if_success exfalso) (by simp [embP, okL, okV, mapL, mapV, lockH, mem_next, mem_get, mem_ro, mapL_cellsR, okL_cellsR, trR, arR, trM, arM] <;> simp [LH.get, mem, memT, T.get, T.put, T.setF]; fail_if_success exfalso) rfl (by first | trivial | simp [okV, okL]) (by (try simp only [mapL, mapV, ll]) <;> exact rfl) (by simp [okL, okV, trR, arR, trM, arM]; fail_if_success exfalso) (by simp [embP, okL, okV, mapL, mapV, lockH, mem_next, mem_get, mem_ro, mapL_cellsR, okL_cellsR, trR, arR, trM, arM] <;> simp [LH.get, mem, memT, T.get, T.put, T.setF]; fail_if_success exfalso) rfl (by first | trivial | simp [okV, okL]) (fun _ _ => ?_)
  refine jp ?_
  refine jd ?_
  refine jr ?_
  refine WD.r (tb := tb) rfl rfl rfl rfl (evQ_call rfl rfl rfl rfl rfl) ?_
  refine jp ?_
  refine jd ?_
  refine jr ?_
  refine WD.r (tb := tb) rfl rfl rfl rfl (evQ_call2 rfl rfl rfl rfl rfl (fun _ h => hq h)) ?_
  refine jw ?_
  refine jp ?_
  refine WD.fin rfl ?_
  refine WS.pblock rfl ?_
  refine jq ?_
  refine jg ?_
  refine jo ?_
  refine jDT ?_
  refine jo ?_
  refine je ?_
  refine WS.pcondT rfl rfl ?_
  iterate 2 refine jq ?_
  refine jg ?_
  refine jo ?_
  refine jP ?_
  refine jo ?_
  refine jc [0,1,2] G1 (by simp [jOb, trR, arR, trM, arM]) (by simp [jEb, jOb, jMb, mapL_cellsR, okL_cellsR, trR, arR, trM, arM]) ?_; rintro _ _ ⟨rfl, rfl⟩ -; simp only [jPg, jMb, ll, Nat.reduceAdd, Nat.reduceLT, Nat.zero_add, if_true, if_false, Nat.reduceSub, reduceIte, mapL_cellsR, Nat.lt_irrefl, Nat.not_lt_zero, Nat.zero_lt_succ, Nat.lt_add_one, trR, arR, trM, arM]
  refine jn ?_
  refine js ?_
  refine je ?_
  refine jq ?_
  refine WS.hasD 38 rfl ?_; refine WS.pdrawQ2 (tb := tb) [0,1,2] [0,1,2] H3 H4 (by exact rfl) (by kernel_rfl) rfl (by kernel_rfl) (by kernel_rfl) (by (try simp only [mapL, mapV, ll]) <;> exact rfl) (by simp [okL, okV, trR, arR, trM, arM]; fail_if_success exfalso) (by simp [embP, okL, okV, mapL, mapV, lockH, mem_next, mem_get, mem_ro, mapL_cellsR, okL_cellsR, trR, arR, trM, arM] <;> simp [LH.get, mem, memT, T.get, T.put, T.setF]; fail_if_success exfalso) rfl (by first | trivial | simp [okV, okL]) (by (try simp only [mapL, mapV, ll]) <;> exact rfl) (by simp [okL, okV, trR, arR, trM, arM]; fail_if_success exfalso) (by simp [embP, okL, okV, mapL, mapV, lockH, mem_next, mem_get, mem_ro, mapL_cellsR, okL_cellsR, trR, arR, trM, arM] <;> simp [LH.get, mem, memT, T.get, T.put, T.setF]; fail_if_success exfalso) rfl (by first | trivial | simp [okV, okL]) (fun _ _ => ?_)
  refine jp ?_
  refine jd ?_
  refine jr ?_
  refine WD.r (tb := tb) rfl rfl rfl rfl (evQ_call rfl rfl rfl rfl rfl) ?_
  refine jp ?_
  refine jd ?_
  refine jr ?_
  refine WD.r (tb := tb) rfl rfl rfl rfl (evQ_call2 rfl rfl rfl rfl rfl (fun _ h => hq2 h)) ?_
  refine jdDF ?_
  refine WD.fin rfl ?_
  refine WS.pcondF rfl rfl ?_
  refine WS.pskip rfl ?_
  refine jq ?_
  refine jg ?_
  iterate 2 refine jo ?_
  refine jc [0,1,2] R1 (by simp [jOb, trR, arR, trM, arM]) (by simp [jEb, jOb, jMb, mapL_cellsR, okL_cellsR, trR, arR, trM, arM]) ?_
  rintro _ _ ⟨rfl, ps2, rfl, S2, F2⟩ -
  simp only [jPg, jMb, ll, Nat.reduceAdd, Nat.reduceLT, Nat.zero_add, if_true, if_false, Nat.reduceSub, reduceIte, mapL_cellsR, Nat.lt_irrefl, Nat.not_lt_zero, Nat.zero_lt_succ, Nat.lt_add_one, trM, arM]
  refine jo ?_
  refine je ?_
  refine WS.pret rfl ⟨.inr rfl, _, rfl, ?_⟩
  exact ⟨_, rfl, [0,1,2], trM ps2 fr lv root len, .i .u32 i1, ⟨rfl, rfl, (by simp [jVb, jOb, jMb, mapL_cellsR, okL_cellsR, trM, arM]), rfl⟩, rfl, trivial, rfl, _, rfl, S2, F1.trans (F2.mono (by rw [← hLL]; simp [ids_nd]))⟩
end Go.Proofs.Ytpogfelbimcglaa.Am

