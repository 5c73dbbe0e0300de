/- Functions of the tree and of the law TreePlays, walked. Conditions: those of each theorem. -/
import Derived.Test.YtpogfelbimcglaaTr4
namespace Go.Proofs.Ytpogfelbimcglaa.Am
open Go.Proofs
set_option maxRecDepth 1000000
set_option maxHeartbeats 4000000
set_option linter.unusedSimpArgs false
set_option linter.unusedVariables false
theorem bal_r2 (ps : List Pl) (fr lv root len : Int) (id : Nat) (p : Pl) (i1 : Nat) (x y z : Int) (l1 : Tr) (i2 : Nat) (l2 r2 : Tr) (x2 y2 z2 : Int) (R : Tr) (h9 a b c : Int) (hp : ps[id]? = some p) (hlv : p.live = true) (h0 : 0 < id) (hL : Rep ps (Tr.nd i1 l1 x y z (.nd i2 l2 x2 y2 z2 r2))) (hR : Rep ps R) (hd : ((Tr.nd i1 l1 x y z (.nd i2 l2 x2 y2 z2 r2)).ids ++ id :: R.ids).Nodup) (hz : Zero ps) (hm : ps.length ≤ 600) (bL : (Tr.nd i1 l1 x y z (.nd i2 l2 x2 y2 z2 r2)).ht ≤ 800) (bR : R.ht ≤ 800)
    (c1 : R.ht + 1 < (Tr.nd i1 l1 x y z (.nd i2 l2 x2 y2 z2 r2)).ht) (c2 : l1.ht < (Tr.nd i2 l2 x2 y2 z2 r2).ht) :
  FM Try.prog 40 [.p (some (2,0)), .i .u32 id, .agg [.i .u32 (Tr.nd i1 l1 x y z (.nd i2 l2 x2 y2 z2 r2)).id, .i .u32 R.id, .i .i64 h9, .i .i64 a, .i .i64 b, .i .i64 c]] (trM ps fr lv root len)
    (fun v M' => v = .i .u32 i2 ∧ ∃ ps', M' = trM ps' fr lv root len ∧ Post ps ps' ((Tr.nd i1 l1 x y z (.nd i2 l2 x2 y2 z2 r2)).ids ++ id :: R.ids) (.nd i2 (.nd i1 l1 x y z l2) x2 y2 z2 (.nd id r2 a b c R))) := by
  have bN : (Tr.nd i1 l1 x y z (.nd i2 l2 x2 y2 z2 r2)).ht ≤ 800 := bL
  generalize hLL : Tr.nd i1 l1 x y z (.nd i2 l2 x2 y2 z2 r2) = L at hL hR hd bL bR c1 ⊢
  have hd' := hd
  simp only [List.nodup_append, List.nodup_cons, List.mem_cons, ne_eq] at hd'
  obtain ⟨dL, ⟨dR, d4⟩, d5⟩ := hd'
  have hiL : id ∉ L.ids := fun e => (d5 id e id (by simp)) rfl
  have P1 := tput_walk ps fr lv root len id _ L R h9 a b c hp hlv hL hR hz hm (by omega) (by omega)
  have S1 := rep_set (a := a) (b := b) (c := c) hp h0 hL hR hiL dR _ rfl
  have F1 := (Fr.set hp ⟨true, p.next, L.id, R.id, (1 + ((max L.ht R.ht : Nat) : Int)), a, b, c⟩ rfl).mono (J := L.ids ++ id :: R.ids) (by simp)
  generalize hps1 : ps.set id ⟨true, p.next, L.id, R.id, (1 + ((max L.ht R.ht : Nat) : Int)), a, b, c⟩ = ps1 at P1 S1 F1
  have hz1 : Zero ps1 := by rw [← hps1]; exact zero_set h0 hz
  have hlen1 : ps1.length = ps.length := by rw [← hps1]; simp
  have hid1 : ps1[id]? = some ⟨true, p.next, L.id, R.id, (1 + ((max L.ht R.ht : Nat) : Int)), a, b, c⟩ := by rw [← hps1]; exact set_same hp
  have hL1 := S1.2.2.1
  have hR1 := S1.2.2.2
  have H1 := height_walk ps1 fr lv root len L hL1 hz1 (by omega)
  have H2 := height_walk ps1 fr lv root len R hR1 hz1 (by omega)
  have hq : ([.p (some (2,0)), .i .u32 (R.id : Int)] : List V) = [.p (some (2,0)), .i .u32 (L.id : Int)] → V.i .i64 L.ht = V.i .i64 R.ht := fun h => by
    simp only [List.cons.injEq, V.i.injEq, true_and, and_true] at h
    rw [hL.same_ht hR (by omega)]
  have hN := hL1
  rw [← hLL] at hN
  obtain ⟨h01, ⟨nx1, hp1⟩, hl1, hr1⟩ := hN
  have G1 := tget_nd ps1 fr lv root len i1 _ hp1 rfl (by omega)
  have H3 := height_walk ps1 fr lv root len l1 hl1 hz1 (by omega)
  have H4 := height_walk ps1 fr lv root len (Tr.nd i2 l2 x2 y2 z2 r2) hr1 hz1 (by omega)
  have hq2 : ([.p (some (2,0)), .i .u32 ((Tr.nd i2 l2 x2 y2 z2 r2).id : Int)] : List V) = [.p (some (2,0)), .i .u32 (l1.id : Int)] → V.i .i64 l1.ht = V.i .i64 (Tr.nd i2 l2 x2 y2 z2 r2).ht := fun h => by
    simp only [List.cons.injEq, V.i.injEq, true_and, and_true] at h
    rw [hl1.same_ht hr1 (by omega)]
  have hNid : L.id = i1 := by rw [← hLL]; rfl
  rw [hNid] at P1 H1 hq ⊢
  have W1 := left_walk ps1 fr lv root len i1 i2 l1 l2 r2 x y z x2 y2 z2 (by rw [hLL]; exact hL1) (by rw [hLL]; exact dL) hz1 (by omega) (by simp only [Tr.ht] at bN ⊢; omega)
  refine FM.pbodyV (tb := tb) (fn := Try.f40) rfl rfl ?_
  simp only [argS, Nat.reduceAdd, trM, arM, List.length_cons, List.length_nil, List.cons_append, List.nil_append]
  refine jq ?_
  refine jg ?_
  refine jn ?_
  refine jo ?_
  refine je ?_
  refine jq ?_
  refine jg ?_
  iterate 2 refine jo ?_
  refine WS.poA (tb := tb) rfl rfl rfl rfl rfl (by simp only [List.drop_zero, List.drop_succ_cons, List.take_succ_cons, List.take_zero, rwPl]; exact rfl) ?_
  refine jc [0,1,2] P1 (by simp [jOb, trR, arR, trM, arM, Tr.id]) (by simp [jEb, jOb, jMb, mapL_cellsR, okL_cellsR, trR, arR, trM, arM, Tr.id]) ?_; rintro _ _ ⟨rfl, rfl⟩ -; simp only [jPg, jMb, ll, Nat.reduceAdd, Nat.reduceLT, Nat.zero_add, if_true, if_false, Nat.reduceSub, reduceIte, mapL_cellsR, Nat.lt_irrefl, Nat.not_lt_zero, Nat.zero_lt_succ, Nat.lt_add_one, trR, arR, trM, arM, Tr.id]
  refine je ?_
  iterate 2 refine jq ?_
  refine WS.hasD 7 rfl ?_; refine WS.pdrawQ2 (tb := tb) [0,1,2] [0,1,2] H1 H2 (by exact rfl) (by kernel_rfl) rfl (by kernel_rfl) (by kernel_rfl) (by (try simp only [mapL, mapV, ll]) <;> exact rfl) (by simp [okL, okV, trR, arR, trM, arM, Tr.id]; fail_if_success exfalso) (by simp [embP, okL, okV, mapL, mapV, lockH, mem_next, mem_get, mem_ro, mapL_cellsR, okL_cellsR, trR, arR, trM, arM, Tr.id] <;> simp [LH.get, mem, memT, T.get, T.put, T.setF]; fail_if_success exfalso) rfl (by first | trivial | simp [okV, okL]) (by (try simp only [mapL, mapV, ll]) <;> exact rfl) (by simp [okL, okV, trR, arR, trM, arM, Tr.id]; fail_if_success exfalso) (by simp [embP, okL, okV, mapL, mapV, lockH, mem_next, mem_get, mem_ro, mapL_cellsR, okL_cellsR, trR, arR, trM, arM, Tr.id] <;> simp [LH.get, mem, memT, T.get, T.put, T.setF]; fail_if_success exfalso) rfl (by first | trivial | simp [okV, okL]) (fun _ _ => ?_)
  refine jp ?_
  refine jd ?_
  refine jr ?_
  refine WD.r (tb := tb) rfl rfl rfl rfl (evQ_call rfl rfl rfl rfl rfl) ?_
  refine jp ?_
  refine jd ?_
  refine jr ?_
  refine WD.r (tb := tb) rfl rfl rfl rfl (evQ_call2 rfl rfl rfl rfl rfl (fun _ h => hq h)) ?_
  refine jw ?_
  refine jp ?_
  refine WD.fin rfl ?_
  refine WS.pblock rfl ?_
  refine jq ?_
  refine jg ?_
  refine jo ?_
  refine jDT ?_
  refine jo ?_
  refine je ?_
  refine WS.pcondT rfl rfl ?_
  iterate 2 refine jq ?_
  refine jg ?_
  refine jo ?_
  refine jP ?_
  refine jo ?_
  refine jc [0,1,2] G1 (by simp [jOb, trR, arR, trM, arM, Tr.id]) (by simp [jEb, jOb, jMb, mapL_cellsR, okL_cellsR, trR, arR, trM, arM, Tr.id]) ?_; rintro _ _ ⟨rfl, rfl⟩ -; simp only [jPg, jMb, ll, Nat.reduceAdd, Nat.reduceLT, Nat.zero_add, if_true, if_false, Nat.reduceSub, reduceIte, mapL_cellsR, Nat.lt_irrefl, Nat.not_lt_zero, Nat.zero_lt_succ, Nat.lt_add_one, trR, arR, trM, arM, Tr.id]
  refine jn ?_
  refine js ?_
  refine je ?_
  refine jq ?_
  refine WS.hasD 38 rfl ?_; refine WS.pdrawQ2 (tb := tb) [0,1,2] [0,1,2] H3 H4 (by exact rfl) (by kernel_rfl) rfl (by kernel_rfl) (by kernel_rfl) (by (try simp only [mapL, mapV, ll]) <;> exact rfl) (by simp [okL, okV, trR, arR, trM, arM, Tr.id]; fail_if_success exfalso) (by simp [embP, okL, okV, mapL, mapV, lockH, mem_next, mem_get, mem_ro, mapL_cellsR, okL_cellsR, trR, arR, trM, arM, Tr.id] <;> simp [LH.get, mem, memT, T.get, T.put, T.setF]; fail_if_success exfalso) rfl (by first | trivial | simp [okV, okL]) (by (try simp only [mapL, mapV, ll]) <;> exact rfl) (by simp [okL, okV, trR, arR, trM, arM, Tr.id]; fail_if_success exfalso) (by simp [embP, okL, okV, mapL, mapV, lockH, mem_next, mem_get, mem_ro, mapL_cellsR, okL_cellsR, trR, arR, trM, arM, Tr.id] <;> simp [LH.get, mem, memT, T.get, T.put, T.setF]; fail_if_success exfalso) rfl (by first | trivial | simp [okV, okL]) (fun _ _ => ?_)
  refine jp ?_
  refine jd ?_
  refine jr ?_
  refine WD.r (tb := tb) rfl rfl rfl rfl (evQ_call rfl rfl rfl rfl rfl) ?_
  refine jp ?_
  refine jd ?_
  refine jr ?_
  refine WD.r (tb := tb) rfl rfl rfl rfl (evQ_call2 rfl rfl rfl rfl rfl (fun _ h => hq2 h)) ?_
  refine jdDT ?_
  refine WD.fin rfl ?_
  refine WS.pcondT rfl rfl ?_
  refine jq ?_
  refine jg ?_
  refine jo ?_
  refine jP ?_
  refine jo ?_
  refine jc [0,1,2] W1 (by simp [jOb, trR, arR, trM, arM, Tr.id]) (by simp [jEb, jOb, jMb, mapL_cellsR, okL_cellsR, trR, arR, trM, arM, Tr.id]) ?_
  rintro _ _ ⟨rfl, ps2, rfl, S2, F2⟩ -
  have hid2 := hid1
  rw [← F2.get id (fun e => hiL (by rw [← hLL]; simp only [List.mem_cons, List.not_mem_nil, or_false] at e; simp only [ids_nd, List.mem_append, List.mem_cons]; rcases e with rfl | rfl <;> simp))] at hid2
  have hz2 : Zero ps2 := F2.zero hz1 (by have := hr1.1; simp only [List.mem_cons, List.not_mem_nil, or_false]; omega)
  have hlen2 : ps2.length = ps.length := F2.len.trans hlen1
  have hR2 : Rep ps2 R := hR1.fr F2 fun j hj hj2 => by
    have h1 : j ∈ L.ids := by rw [← hLL]; simp only [List.mem_cons, List.not_mem_nil, or_false] at hj2; simp only [ids_nd, List.mem_append, List.mem_cons]; rcases hj2 with rfl | rfl <;> simp
    exact d5 j h1 j (by simp [hj]) rfl
  have hmid : (Tr.nd i2 (.nd i1 l1 x y z l2) x2 y2 z2 r2).ids = L.ids := by rw [← hLL]; simp [ids_nd]
  obtain ⟨ps3, hps3⟩ : ∃ q, q = ps2.set id ⟨true, p.next, i2, R.id, (1 + ((max (Tr.nd i2 (.nd i1 l1 x y z l2) x2 y2 z2 r2).ht R.ht : Nat) : Int)), a, b, c⟩ := ⟨_, rfl⟩
  have P2 : FM Try.prog 28 [.p (some (2,0)), .i .u32 id, .agg [.i .u32 i2, .i .u32 R.id, .i .i64 h9, .i .i64 a, .i .i64 b, .i .i64 c]] (trM ps2 fr lv root len) (fun v M' => v = .i .u32 id ∧ M' = trM ps3 fr lv root len) := by rw [hps3]; exact tput_walk ps2 fr lv root len id ⟨true, p.next, L.id, R.id, (1 + ((max L.ht R.ht : Nat) : Int)), a, b, c⟩ (Tr.nd i2 (.nd i1 l1 x y z l2) x2 y2 z2 r2) R h9 a b c hid2 rfl S2 hR2 hz2 (by omega) (by simp only [Tr.ht] at bN ⊢; omega) (by omega)
  have S3 : Rep ps3 (.nd id (Tr.nd i2 (.nd i1 l1 x y z l2) x2 y2 z2 r2) a b c R) := by rw [hps3]; exact rep_set (a := a) (b := b) (c := c) hid2 h0 S2 hR2 (by rw [hmid]; exact hiL) dR _ rfl
  have F3 : Fr ps2 ps3 (L.ids ++ id :: R.ids) := by rw [hps3]; refine Fr.mono (I := [id]) (Fr.set hid2 _ ?_) (by simp); rfl
  have hz3 : Zero ps3 := by rw [hps3]; exact zero_set h0 hz2
  have hlen3 : ps3.length = ps.length := by rw [hps3]; simp [hlen2]
  have R1 := right_walk ps3 fr lv root len id i2 (.nd i1 l1 x y z l2) r2 R a b c x2 y2 z2 S3 (by rw [ids_nd, hmid]; exact hd) hz3 (by omega) (by simp only [Tr.ht] at bN ⊢; omega)
  simp only [jPg, jMb, ll, Nat.reduceAdd, Nat.reduceLT, Nat.zero_add, if_true, if_false, Nat.reduceSub, reduceIte, mapL_cellsR, Nat.lt_irrefl, Nat.not_lt_zero, Nat.zero_lt_succ, Nat.lt_add_one, trM, arM]
  refine jP ?_
  refine js ?_
  refine je ?_
  refine jg ?_
  iterate 2 refine jo ?_
  refine WS.poA (tb := tb) rfl rfl rfl rfl rfl (by simp only [List.drop_zero, List.drop_succ_cons, List.take_succ_cons, List.take_zero, rwPl]; exact rfl) ?_
  refine jc [0,1,2] P2 (by simp [jOb, trR, arR, trM, arM, Tr.id]) (by simp [jEb, jOb, jMb, mapL_cellsR, okL_cellsR, trR, arR, trM, arM, Tr.id]) ?_; rintro _ _ ⟨rfl, rfl⟩ -; simp only [jPg, jMb, ll, Nat.reduceAdd, Nat.reduceLT, Nat.zero_add, if_true, if_false, Nat.reduceSub, reduceIte, mapL_cellsR, Nat.lt_irrefl, Nat.not_lt_zero, Nat.zero_lt_succ, Nat.lt_add_one, trR, arR, trM, arM, Tr.id]
  refine je ?_
  refine jq ?_
  refine jg ?_
  iterate 2 refine jo ?_
  refine jc [0,1,2] R1 (by simp [jOb, trR, arR, trM, arM, Tr.id]) (by simp [jEb, jOb, jMb, mapL_cellsR, okL_cellsR, trR, arR, trM, arM, Tr.id]) ?_
  rintro _ _ ⟨rfl, ps4, rfl, S4, F4⟩ -
  simp only [jPg, jMb, ll, Nat.reduceAdd, Nat.reduceLT, Nat.zero_add, if_true, if_false, Nat.reduceSub, reduceIte, mapL_cellsR, Nat.lt_irrefl, Nat.not_lt_zero, Nat.zero_lt_succ, Nat.lt_add_one, trM, arM]
  refine jo ?_
  refine je ?_
  refine WS.pret rfl ⟨.inr rfl, _, rfl, ?_⟩
  exact ⟨_, rfl, [0,1,2], trM ps4 fr lv root len, .i .u32 i2, ⟨rfl, rfl, (by simp [jVb, jOb, jMb, mapL_cellsR, okL_cellsR, trM, arM]), rfl⟩, rfl, trivial, rfl, _, rfl, S4, F1.trans ((F2.mono (by rw [← hLL]; intro j hj; simp only [List.mem_cons, List.not_mem_nil, or_false] at hj; simp only [ids_nd, List.mem_append, List.mem_cons]; rcases hj with rfl | rfl <;> simp)).trans (F3.trans (F4.mono (by rw [← hLL]; intro j hj; simp only [List.mem_cons, List.not_mem_nil, or_false] at hj; simp only [ids_nd, List.mem_append, List.mem_cons]; rcases hj with rfl | rfl <;> simp))))⟩
theorem bal_l1 (ps : List Pl) (fr lv root len : Int) (id : Nat) (p : Pl) (i1 : Nat) (x y z : Int) (l1 : Tr) (r1 : Tr) (L : Tr) (h9 a b c : Int) (hp : ps[id]? = some p) (hlv : p.live = true) (h0 : 0 < id) (hL : Rep ps L) (hR : Rep ps (Tr.nd i1 l1 x y z r1)) (hd : (L.ids ++ id :: (Tr.nd i1 l1 x y z r1).ids).Nodup) (hz : Zero ps) (hm : ps.length ≤ 600) (bL : L.ht ≤ 800) (bR : (Tr.nd i1 l1 x y z r1).ht ≤ 800)
    (c1 : L.ht + 1 < (Tr.nd i1 l1 x y z r1).ht) (c2 : ¬ r1.ht < l1.ht) :
  FM Try.prog 40 [.p (some (2,0)), .i .u32 id, .agg [.i .u32 L.id, .i .u32 (Tr.nd i1 l1 x y z r1).id, .i .i64 h9, .i .i64 a, .i .i64 b, .i .i64 c]] (trM ps fr lv root len)
    (fun v M' => v = .i .u32 i1 ∧ ∃ ps', M' = trM ps' fr lv root len ∧ Post ps ps' (L.ids ++ id :: (Tr.nd i1 l1 x y z r1).ids) (.nd i1 (.nd id L a b c l1) x y z r1)) := by
  have bN : (Tr.nd i1 l1 x y z r1).ht ≤ 800 := bR
  generalize hLL : Tr.nd i1 l1 x y z r1 = R at hL hR hd bL bR c1 ⊢
  have hd' := hd
  simp only [List.nodup_append, List.nodup_cons, List.mem_cons, ne_eq] at hd'
  obtain ⟨dL, ⟨dR, d4⟩, d5⟩ := hd'
  have hiL : id ∉ L.ids := fun e => (d5 id e id (by simp)) rfl
  have P1 := tput_walk ps fr lv root len id _ L R h9 a b c hp hlv hL hR hz hm (by omega) (by omega)
  have S1 := rep_set (a := a) (b := b) (c := c) hp h0 hL hR hiL dR _ rfl
  have F1 := (Fr.set hp ⟨true, p.next, L.id, R.id, (1 + ((max L.ht R.ht : Nat) : Int)), a, b, c⟩ rfl).mono (J := L.ids ++ id :: R.ids) (by simp)
  generalize hps1 : ps.set id ⟨true, p.next, L.id, R.id, (1 + ((max L.ht R.ht : Nat) : Int)), a, b, c⟩ = ps1 at P1 S1 F1
  have hz1 : Zero ps1 := by rw [← hps1]; exact zero_set h0 hz
  have hlen1 : ps1.length = ps.length := by rw [← hps1]; simp
  have hid1 : ps1[id]? = some ⟨true, p.next, L.id, R.id, (1 + ((max L.ht R.ht : Nat) : Int)), a, b, c⟩ := by rw [← hps1]; exact set_same hp
  have hL1 := S1.2.2.1
  have hR1 := S1.2.2.2
  have H1 := height_walk ps1 fr lv root len L hL1 hz1 (by omega)
  have H2 := height_walk ps1 fr lv root len R hR1 hz1 (by omega)
  have hq : ([.p (some (2,0)), .i .u32 (R.id : Int)] : List V) = [.p (some (2,0)), .i .u32 (L.id : Int)] → V.i .i64 L.ht = V.i .i64 R.ht := fun h => by
    simp only [List.cons.injEq, V.i.injEq, true_and, and_true] at h
    rw [hL.same_ht hR (by omega)]
  have hN := hR1
  rw [← hLL] at hN
  obtain ⟨h01, ⟨nx1, hp1⟩, hl1, hr1⟩ := hN
  have G1 := tget_nd ps1 fr lv root len i1 _ hp1 rfl (by omega)
  have H3 := height_walk ps1 fr lv root len r1 hr1 hz1 (by omega)
  have H4 := height_walk ps1 fr lv root len l1 hl1 hz1 (by omega)
  have hq2 : ([.p (some (2,0)), .i .u32 (l1.id : Int)] : List V) = [.p (some (2,0)), .i .u32 (r1.id : Int)] → V.i .i64 r1.ht = V.i .i64 l1.ht := fun h => by
    simp only [List.cons.injEq, V.i.injEq, true_and, and_true] at h
    rw [hr1.same_ht hl1 (by omega)]
  have hNid : R.id = i1 := by rw [← hLL]; rfl
  rw [hNid] at P1 H2 hq ⊢
  have R1 := left_walk ps1 fr lv root len id i1 L l1 r1 a b c x y z (by rw [hLL]; exact S1) (by rw [hLL, ids_nd]; exact hd) hz1 (by omega) (by rw [hLL]; simp only [Tr.ht]; omega)
  refine FM.pbodyV (tb := tb) (fn := Try.f40) rfl rfl ?_
  simp only [argS, Nat.reduceAdd, trM, arM, List.length_cons, List.length_nil, List.cons_append, List.nil_append]
  refine jq ?_
  refine jg ?_
  refine jn ?_
  refine jo ?_
  refine je ?_
  refine jq ?_
  refine jg ?_
  iterate 2 refine jo ?_
  refine WS.poA (tb := tb) rfl rfl rfl rfl rfl (by simp only [List.drop_zero, List.drop_succ_cons, List.take_succ_cons, List.take_zero, rwPl]; exact rfl) ?_
  refine jc [0,1,2] P1 (by simp [jOb, trR, arR, trM, arM]) (by simp [jEb, jOb, jMb, mapL_cellsR, okL_cellsR, trR, arR, trM, arM]) ?_; rintro _ _ ⟨rfl, rfl⟩ -; simp only [jPg, jMb, ll, Nat.reduceAdd, Nat.reduceLT, Nat.zero_add, if_true, if_false, Nat.reduceSub, reduceIte, mapL_cellsR, Nat.lt_irrefl, Nat.not_lt_zero, Nat.zero_lt_succ, Nat.lt_add_one, trR, arR, trM, arM]
  refine je ?_
  iterate 2 refine jq ?_
  refine WS.hasD 7 rfl ?_; refine WS.pdrawQ2 (tb := tb) [0,1,2] [0,1,2] H1 H2 (by exact rfl) (by kernel_rfl) rfl (by kernel_rfl) (by kernel_rfl) (by (try simp only [mapL, mapV, ll]) <;> exact rfl) (by simp [okL, okV, trR, arR, trM, arM]; fail_if_success exfalso) (by simp [embP, okL, okV, mapL, mapV, lockH, mem_next, mem_get, mem_ro, mapL_cellsR, okL_cellsR, trR, arR, trM, arM] <;> simp [LH.get, mem, memT, T.get, T.put, T.setF]; fail_if_success exfalso) rfl (by first | trivial | simp [okV, okL]) (by (try simp only [mapL, mapV, ll]) <;> exact rfl) (by simp [okL, okV, trR, arR, trM, arM]; fail_if_success exfalso) (by simp [embP, okL, okV, mapL, mapV, lockH, mem_next, mem_get, mem_ro, mapL_cellsR, okL_cellsR, trR, arR, trM, arM] <;> simp [LH.get, mem, memT, T.get, T.put, T.setF]; fail_if_success exfalso) rfl (by first | trivial | simp [okV, okL]) (fun _ _ => ?_)
  refine jp ?_
  refine jd ?_
  refine jr ?_
  refine WD.r (tb := tb) rfl rfl rfl rfl (evQ_call rfl rfl rfl rfl rfl) ?_
  refine jp ?_
  refine jd ?_
  refine jr ?_
  refine WD.r (tb := tb) rfl rfl rfl rfl (evQ_call2 rfl rfl rfl rfl rfl (fun _ h => hq h)) ?_
  refine jw ?_
  refine jp ?_
  refine WD.fin rfl ?_
  refine WS.pblock rfl ?_
  refine jq ?_
  refine jg ?_
  refine jo ?_
  refine jDF ?_
  refine jo ?_
  refine je ?_
  refine WS.pcondF rfl rfl ?_
  refine jq ?_
  refine jg ?_
  refine jo ?_
  refine jDT ?_
  refine jo ?_
  refine je ?_
  refine WS.pcondT rfl rfl ?_
  iterate 2 refine jq ?_
  refine jg ?_
  refine jo ?_
  refine jP ?_
  refine jo ?_
  refine jc [0,1,2] G1 (by simp [jOb, trR, arR, trM, arM]) (by simp [jEb, jOb, jMb, mapL_cellsR, okL_cellsR, trR, arR, trM, arM]) ?_; rintro _ _ ⟨rfl, rfl⟩ -; simp only [jPg, jMb, ll, Nat.reduceAdd, Nat.reduceLT, Nat.zero_add, if_true, if_false, Nat.reduceSub, reduceIte, mapL_cellsR, Nat.lt_irrefl, Nat.not_lt_zero, Nat.zero_lt_succ, Nat.lt_add_one, trR, arR, trM, arM]
  refine jn ?_
  refine js ?_
  refine je ?_
  refine jq ?_
  refine WS.hasD 66 rfl ?_; refine WS.pdrawQ2 (tb := tb) [0,1,2] [0,1,2] H3 H4 (by exact rfl) (by kernel_rfl) rfl (by kernel_rfl) (by kernel_rfl) (by (try simp only [mapL, mapV, ll]) <;> exact rfl) (by simp [okL, okV, trR, arR, trM, arM]; fail_if_success exfalso) (by simp [embP, okL, okV, mapL, mapV, lockH, mem_next, mem_get, mem_ro, mapL_cellsR, okL_cellsR, trR, arR, trM, arM] <;> simp [LH.get, mem, memT, T.get, T.put, T.setF]; fail_if_success exfalso) rfl (by first | trivial | simp [okV, okL]) (by (try simp only [mapL, mapV, ll]) <;> exact rfl) (by simp [okL, okV, trR, arR, trM, arM]; fail_if_success exfalso) (by simp [embP, okL, okV, mapL, mapV, lockH, mem_next, mem_get, mem_ro, mapL_cellsR, okL_cellsR, trR, arR, trM, arM] <;> simp [LH.get, mem, memT, T.get, T.put, T.setF]; fail_if_success exfalso) rfl (by first | trivial | simp [okV, okL]) (fun _ _ => ?_)
  refine jp ?_
  refine jd ?_
  refine jr ?_
  refine WD.r (tb := tb) rfl rfl rfl rfl (evQ_call rfl rfl rfl rfl rfl) ?_
  refine jp ?_
  refine jd ?_
  refine jr ?_
  refine WD.r (tb := tb) rfl rfl rfl rfl (evQ_call2 rfl rfl rfl rfl rfl (fun _ h => hq2 h)) ?_
  refine jdDF ?_
  refine WD.fin rfl ?_
  refine WS.pcondF rfl rfl ?_
  refine WS.pskip rfl ?_
  refine jq ?_
  refine jg ?_
  iterate 2 refine jo ?_
  refine jc [0,1,2] R1 (by simp [jOb, trR, arR, trM, arM]) (by simp [jEb, jOb, jMb, mapL_cellsR, okL_cellsR, trR, arR, trM, arM]) ?_
  rintro _ _ ⟨rfl, ps2, rfl, S2, F2⟩ -
  simp only [jPg, jMb, ll, Nat.reduceAdd, Nat.reduceLT, Nat.zero_add, if_true, if_false, Nat.reduceSub, reduceIte, mapL_cellsR, Nat.lt_irrefl, Nat.not_lt_zero, Nat.zero_lt_succ, Nat.lt_add_one, trM, arM]
  refine jo ?_
  refine je ?_
  refine WS.pret rfl ⟨.inr rfl, _, rfl, ?_⟩
  exact ⟨_, rfl, [0,1,2], trM ps2 fr lv root len, .i .u32 i1, ⟨rfl, rfl, (by simp [jVb, jOb, jMb, mapL_cellsR, okL_cellsR, trM, arM]), rfl⟩, rfl, trivial, rfl, _, rfl, S2, F1.trans (F2.mono (by rw [← hLL]; intro j hj; simp only [List.mem_cons, List.not_mem_nil, or_false] at hj; simp only [ids_nd, List.mem_append, List.mem_cons]; rcases hj with rfl | rfl <;> simp))⟩
theorem bal_l2 (ps : List Pl) (fr lv root len : Int) (id : Nat) (p : Pl) (i1 : Nat) (x y z : Int) (r1 : Tr) (i2 : Nat) (l2 r2 : Tr) (x2 y2 z2 : Int) (L : Tr) (h9 a b c : Int) (hp : ps[id]? = some p) (hlv : p.live = true) (h0 : 0 < id) (hL : Rep ps L) (hR : Rep ps (Tr.nd i1 (.nd i2 l2 x2 y2 z2 r2) x y z r1)) (hd : (L.ids ++ id :: (Tr.nd i1 (.nd i2 l2 x2 y2 z2 r2) x y z r1).ids).Nodup) (hz : Zero ps) (hm : ps.length ≤ 600) (bL : L.ht ≤ 800) (bR : (Tr.nd i1 (.nd i2 l2 x2 y2 z2 r2) x y z r1).ht ≤ 800)
    (c1 : L.ht + 1 < (Tr.nd i1 (.nd i2 l2 x2 y2 z2 r2) x y z r1).ht) (c2 : r1.ht < (Tr.nd i2 l2 x2 y2 z2 r2).ht) :
  FM Try.prog 40 [.p (some (2,0)), .i .u32 id, .agg [.i .u32 L.id, .i .u32 (Tr.nd i1 (.nd i2 l2 x2 y2 z2 r2) x y z r1).id, .i .i64 h9, .i .i64 a, .i .i64 b, .i .i64 c]] (trM ps fr lv root len)
    (fun v M' => v = .i .u32 i2 ∧ ∃ ps', M' = trM ps' fr lv root len ∧ Post ps ps' (L.ids ++ id :: (Tr.nd i1 (.nd i2 l2 x2 y2 z2 r2) x y z r1).ids) (.nd i2 (.nd id L a b c l2) x2 y2 z2 (.nd i1 r2 x y z r1))) := by
  have bN : (Tr.nd i1 (.nd i2 l2 x2 y2 z2 r2) x y z r1).ht ≤ 800 := bR
  generalize hLL : Tr.nd i1 (.nd i2 l2 x2 y2 z2 r2) x y z r1 = R at hL hR hd bL bR c1 ⊢
  have hd' := hd
  simp only [List.nodup_append, List.nodup_cons, List.mem_cons, ne_eq] at hd'
  obtain ⟨dL, ⟨dR, d4⟩, d5⟩ := hd'
  have hiL : id ∉ L.ids := fun e => (d5 id e id (by simp)) rfl
  have P1 := tput_walk ps fr lv root len id _ L R h9 a b c hp hlv hL hR hz hm (by omega) (by omega)
  have S1 := rep_set (a := a) (b := b) (c := c) hp h0 hL hR hiL dR _ rfl
  have F1 := (Fr.set hp ⟨true, p.next, L.id, R.id, (1 + ((max L.ht R.ht : Nat) : Int)), a, b, c⟩ rfl).mono (J := L.ids ++ id :: R.ids) (by simp)
  generalize hps1 : ps.set id ⟨true, p.next, L.id, R.id, (1 + ((max L.ht R.ht : Nat) : Int)), a, b, c⟩ = ps1 at P1 S1 F1
  have hz1 : Zero ps1 := by rw [← hps1]; exact zero_set h0 hz
  have hlen1 : ps1.length = ps.length := by rw [← hps1]; simp
  have hid1 : ps1[id]? = some ⟨true, p.next, L.id, R.id, (1 + ((max L.ht R.ht : Nat) : Int)), a, b, c⟩ := by rw [← hps1]; exact set_same hp
  have hL1 := S1.2.2.1
  have hR1 := S1.2.2.2
  have H1 := height_walk ps1 fr lv root len L hL1 hz1 (by omega)
  have H2 := height_walk ps1 fr lv root len R hR1 hz1 (by omega)
  have hq : ([.p (some (2,0)), .i .u32 (R.id : Int)] : List V) = [.p (some (2,0)), .i .u32 (L.id : Int)] → V.i .i64 L.ht = V.i .i64 R.ht := fun h => by
    simp only [List.cons.injEq, V.i.injEq, true_and, and_true] at h
    rw [hL.same_ht hR (by omega)]
  have hN := hR1
  rw [← hLL] at hN
  obtain ⟨h01, ⟨nx1, hp1⟩, hl1, hr1⟩ := hN
  have G1 := tget_nd ps1 fr lv root len i1 _ hp1 rfl (by omega)
  have H3 := height_walk ps1 fr lv root len r1 hr1 hz1 (by omega)
  have H4 := height_walk ps1 fr lv root len (Tr.nd i2 l2 x2 y2 z2 r2) hl1 hz1 (by omega)
  have hq2 : ([.p (some (2,0)), .i .u32 ((Tr.nd i2 l2 x2 y2 z2 r2).id : Int)] : List V) = [.p (some (2,0)), .i .u32 (r1.id : Int)] → V.i .i64 r1.ht = V.i .i64 (Tr.nd i2 l2 x2 y2 z2 r2).ht := fun h => by
    simp only [List.cons.injEq, V.i.injEq, true_and, and_true] at h
    rw [hr1.same_ht hl1 (by omega)]
  have hNid : R.id = i1 := by rw [← hLL]; rfl
  rw [hNid] at P1 H2 hq ⊢
  have W1 := right_walk ps1 fr lv root len i1 i2 l2 r2 r1 x y z x2 y2 z2 (by rw [hLL]; exact hR1) (by rw [hLL]; exact d4) hz1 (by omega) (by simp only [Tr.ht] at bN ⊢; omega)
  refine FM.pbodyV (tb := tb) (fn := Try.f40) rfl rfl ?_
  simp only [argS, Nat.reduceAdd, trM, arM, List.length_cons, List.length_nil, List.cons_append, List.nil_append]
  refine jq ?_
  refine jg ?_
  refine jn ?_
  refine jo ?_
  refine je ?_
  refine jq ?_
  refine jg ?_
  iterate 2 refine jo ?_
  refine WS.poA (tb := tb) rfl rfl rfl rfl rfl (by simp only [List.drop_zero, List.drop_succ_cons, List.take_succ_cons, List.take_zero, rwPl]; exact rfl) ?_
  refine jc [0,1,2] P1 (by simp [jOb, trR, arR, trM, arM, Tr.id]) (by simp [jEb, jOb, jMb, mapL_cellsR, okL_cellsR, trR, arR, trM, arM, Tr.id]) ?_; rintro _ _ ⟨rfl, rfl⟩ -; simp only [jPg, jMb, ll, Nat.reduceAdd, Nat.reduceLT, Nat.zero_add, if_true, if_false, Nat.reduceSub, reduceIte, mapL_cellsR, Nat.lt_irrefl, Nat.not_lt_zero, Nat.zero_lt_succ, Nat.lt_add_one, trR, arR, trM, arM, Tr.id]
  refine je ?_
  iterate 2 refine jq ?_
  refine WS.hasD 7 rfl ?_; refine WS.pdrawQ2 (tb := tb) [0,1,2] [0,1,2] H1 H2 (by exact rfl) (by kernel_rfl) rfl (by kernel_rfl) (by kernel_rfl) (by (try simp only [mapL, mapV, ll]) <;> exact rfl) (by simp [okL, okV, trR, arR, trM, arM, Tr.id]; fail_if_success exfalso) (by simp [embP, okL, okV, mapL, mapV, lockH, mem_next, mem_get, mem_ro, mapL_cellsR, okL_cellsR, trR, arR, trM, arM, Tr.id] <;> simp [LH.get, mem, memT, T.get, T.put, T.setF]; fail_if_success exfalso) rfl (by first | trivial | simp [okV, okL]) (by (try simp only [mapL, mapV, ll]) <;> exact rfl) (by simp [okL, okV, trR, arR, trM, arM, Tr.id]; fail_if_success exfalso) (by simp [embP, okL, okV, mapL, mapV, lockH, mem_next, mem_get, mem_ro, mapL_cellsR, okL_cellsR, trR, arR, trM, arM, Tr.id] <;> simp [LH.get, mem, memT, T.get, T.put, T.setF]; fail_if_success exfalso) rfl (by first | trivial | simp [okV, okL]) (fun _ _ => ?_)
  refine jp ?_
  refine jd ?_
  refine jr ?_
  refine WD.r (tb := tb) rfl rfl rfl rfl (evQ_call rfl rfl rfl rfl rfl) ?_
  refine jp ?_
  refine jd ?_
  refine jr ?_
  refine WD.r (tb := tb) rfl rfl rfl rfl (evQ_call2 rfl rfl rfl rfl rfl (fun _ h => hq h)) ?_
  refine jw ?_
  refine jp ?_
  refine WD.fin rfl ?_
  refine WS.pblock rfl ?_
  refine jq ?_
  refine jg ?_
  refine jo ?_
  refine jDF ?_
  refine jo ?_
  refine je ?_
  refine WS.pcondF rfl rfl ?_
  refine jq ?_
  refine jg ?_
  refine jo ?_
  refine jDT ?_
  refine jo ?_
  refine je ?_
  refine WS.pcondT rfl rfl ?_
  iterate 2 refine jq ?_
  refine jg ?_
  refine jo ?_
  refine jP ?_
  refine jo ?_
  refine jc [0,1,2] G1 (by simp [jOb, trR, arR, trM, arM, Tr.id]) (by simp [jEb, jOb, jMb, mapL_cellsR, okL_cellsR, trR, arR, trM, arM, Tr.id]) ?_; rintro _ _ ⟨rfl, rfl⟩ -; simp only [jPg, jMb, ll, Nat.reduceAdd, Nat.reduceLT, Nat.zero_add, if_true, if_false, Nat.reduceSub, reduceIte, mapL_cellsR, Nat.lt_irrefl, Nat.not_lt_zero, Nat.zero_lt_succ, Nat.lt_add_one, trR, arR, trM, arM, Tr.id]
  refine jn ?_
  refine js ?_
  refine je ?_
  refine jq ?_
  refine WS.hasD 66 rfl ?_; refine WS.pdrawQ2 (tb := tb) [0,1,2] [0,1,2] H3 H4 (by exact rfl) (by kernel_rfl) rfl (by kernel_rfl) (by kernel_rfl) (by (try simp only [mapL, mapV, ll]) <;> exact rfl) (by simp [okL, okV, trR, arR, trM, arM, Tr.id]; fail_if_success exfalso) (by simp [embP, okL, okV, mapL, mapV, lockH, mem_next, mem_get, mem_ro, mapL_cellsR, okL_cellsR, trR, arR, trM, arM, Tr.id] <;> simp [LH.get, mem, memT, T.get, T.put, T.setF]; fail_if_success exfalso) rfl (by first | trivial | simp [okV, okL]) (by (try simp only [mapL, mapV, ll]) <;> exact rfl) (by simp [okL, okV, trR, arR, trM, arM, Tr.id]; fail_if_success exfalso) (by simp [embP, okL, okV, mapL, mapV, lockH, mem_next, mem_get, mem_ro, mapL_cellsR, okL_cellsR, trR, arR, trM, arM, Tr.id] <;> simp [LH.get, mem, memT, T.get, T.put, T.setF]; fail_if_success exfalso) rfl (by first | trivial | simp [okV, okL]) (fun _ _ => ?_)
  refine jp ?_
  refine jd ?_
  refine jr ?_
  refine WD.r (tb := tb) rfl rfl rfl rfl (evQ_call rfl rfl rfl rfl rfl) ?_
  refine jp ?_
  refine jd ?_
  refine jr ?_
  refine WD.r (tb := tb) rfl rfl rfl rfl (evQ_call2 rfl rfl rfl rfl rfl (fun _ h => hq2 h)) ?_
  refine jdDT ?_
  refine WD.fin rfl ?_
  refine WS.pcondT rfl rfl ?_
  refine jq ?_
  refine jg ?_
  refine jo ?_
  refine jP ?_
  refine jo ?_
  refine jc [0,1,2] W1 (by simp [jOb, trR, arR, trM, arM, Tr.id]) (by simp [jEb, jOb, jMb, mapL_cellsR, okL_cellsR, trR, arR, trM, arM, Tr.id]) ?_
  rintro _ _ ⟨rfl, ps2, rfl, S2, F2⟩ -
  have hid2 := hid1
  rw [← F2.get id (fun e => dR (by rw [← hLL]; simp only [List.mem_cons, List.not_mem_nil, or_false] at e; simp only [ids_nd, List.mem_append, List.mem_cons]; rcases e with rfl | rfl <;> simp))] at hid2
  have hz2 : Zero ps2 := F2.zero hz1 (by have := hl1.1; simp only [List.mem_cons, List.not_mem_nil, or_false]; omega)
  have hlen2 : ps2.length = ps.length := F2.len.trans hlen1
  have hL2 : Rep ps2 L := hL1.fr F2 fun j hj hj2 => by
    have h1 : j ∈ R.ids := by rw [← hLL]; simp only [List.mem_cons, List.not_mem_nil, or_false] at hj2; simp only [ids_nd, List.mem_append, List.mem_cons]; rcases hj2 with rfl | rfl <;> simp
    exact d5 j hj j (by simp [h1]) rfl
  have hmid : (Tr.nd i2 l2 x2 y2 z2 (.nd i1 r2 x y z r1)).ids = R.ids := by rw [← hLL]; simp [ids_nd]
  obtain ⟨ps3, hps3⟩ : ∃ q, q = ps2.set id ⟨true, p.next, L.id, i2, (1 + ((max L.ht (Tr.nd i2 l2 x2 y2 z2 (.nd i1 r2 x y z r1)).ht : Nat) : Int)), a, b, c⟩ := ⟨_, rfl⟩
  have P2 : FM Try.prog 28 [.p (some (2,0)), .i .u32 id, .agg [.i .u32 L.id, .i .u32 i2, .i .i64 h9, .i .i64 a, .i .i64 b, .i .i64 c]] (trM ps2 fr lv root len) (fun v M' => v = .i .u32 id ∧ M' = trM ps3 fr lv root len) := by rw [hps3]; exact tput_walk ps2 fr lv root len id ⟨true, p.next, L.id, R.id, (1 + ((max L.ht R.ht : Nat) : Int)), a, b, c⟩ L (Tr.nd i2 l2 x2 y2 z2 (.nd i1 r2 x y z r1)) h9 a b c hid2 rfl hL2 S2 hz2 (by omega) (by omega) (by simp only [Tr.ht] at bN ⊢; omega)
  have S3 : Rep ps3 (.nd id L a b c (Tr.nd i2 l2 x2 y2 z2 (.nd i1 r2 x y z r1))) := by rw [hps3]; exact rep_set (a := a) (b := b) (c := c) hid2 h0 hL2 S2 hiL (by rw [hmid]; exact dR) _ rfl
  have F3 : Fr ps2 ps3 (L.ids ++ id :: R.ids) := by rw [hps3]; refine Fr.mono (I := [id]) (Fr.set hid2 _ ?_) (by simp); rfl
  have hz3 : Zero ps3 := by rw [hps3]; exact zero_set h0 hz2
  have hlen3 : ps3.length = ps.length := by rw [hps3]; simp [hlen2]
  have R1 := left_walk ps3 fr lv root len id i2 L l2 (.nd i1 r2 x y z r1) a b c x2 y2 z2 S3 (by rw [ids_nd, hmid]; exact hd) hz3 (by omega) (by simp only [Tr.ht] at bN ⊢; omega)
  simp only [jPg, jMb, ll, Nat.reduceAdd, Nat.reduceLT, Nat.zero_add, if_true, if_false, Nat.reduceSub, reduceIte, mapL_cellsR, Nat.lt_irrefl, Nat.not_lt_zero, Nat.zero_lt_succ, Nat.lt_add_one, trM, arM]
  refine jP ?_
  refine js ?_
  refine je ?_
  refine jg ?_
  iterate 2 refine jo ?_
  refine WS.poA (tb := tb) rfl rfl rfl rfl rfl (by simp only [List.drop_zero, List.drop_succ_cons, List.take_succ_cons, List.take_zero, rwPl]; exact rfl) ?_
  refine jc [0,1,2] P2 (by simp [jOb, trR, arR, trM, arM, Tr.id]) (by simp [jEb, jOb, jMb, mapL_cellsR, okL_cellsR, trR, arR, trM, arM, Tr.id]) ?_; rintro _ _ ⟨rfl, rfl⟩ -; simp only [jPg, jMb, ll, Nat.reduceAdd, Nat.reduceLT, Nat.zero_add, if_true, if_false, Nat.reduceSub, reduceIte, mapL_cellsR, Nat.lt_irrefl, Nat.not_lt_zero, Nat.zero_lt_succ, Nat.lt_add_one, trR, arR, trM, arM, Tr.id]
  refine je ?_
  refine jq ?_
  refine jg ?_
  iterate 2 refine jo ?_
  refine jc [0,1,2] R1 (by simp [jOb, trR, arR, trM, arM, Tr.id]) (by simp [jEb, jOb, jMb, mapL_cellsR, okL_cellsR, trR, arR, trM, arM, Tr.id]) ?_
  rintro _ _ ⟨rfl, ps4, rfl, S4, F4⟩ -
  simp only [jPg, jMb, ll, Nat.reduceAdd, Nat.reduceLT, Nat.zero_add, if_true, if_false, Nat.reduceSub, reduceIte, mapL_cellsR, Nat.lt_irrefl, Nat.not_lt_zero, Nat.zero_lt_succ, Nat.lt_add_one, trM, arM]
  refine jo ?_
  refine je ?_
  refine WS.pret rfl ⟨.inr rfl, _, rfl, ?_⟩
  exact ⟨_, rfl, [0,1,2], trM ps4 fr lv root len, .i .u32 i2, ⟨rfl, rfl, (by simp [jVb, jOb, jMb, mapL_cellsR, okL_cellsR, trM, arM]), rfl⟩, rfl, trivial, rfl, _, rfl, S4, F1.trans ((F2.mono (by rw [← hLL]; intro j hj; simp only [List.mem_cons, List.not_mem_nil, or_false] at hj; simp only [ids_nd, List.mem_append, List.mem_cons]; rcases hj with rfl | rfl <;> simp)).trans (F3.trans (F4.mono (by rw [← hLL]; intro j hj; simp only [List.mem_cons, List.not_mem_nil, or_false] at hj; simp only [ids_nd, List.mem_append, List.mem_cons]; rcases hj with rfl | rfl <;> simp))))⟩
end Go.Proofs.Ytpogfelbimcglaa.Am

