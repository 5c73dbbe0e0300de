/- A round of ArenaPlays: nodes that are live. Conditions: those of each theorem. -/
import Derived.Test.YtjoocblinfnhgaaAr8
namespace Go.Proofs.Ytjoocblinfnhgaa.Am
open Go.Proofs
set_option maxRecDepth 100000
set_option maxHeartbeats 4000000
set_option linter.unusedSimpArgs false
set_option linter.unusedVariables false

theorem bd_g1n (size : Nat) (l : List Act) (c i : Nat) (ps : List Pl) (fr lv : Int) (xs : List Int) (o : Nat) (nd : List Nd) (k : Nat) (op left h lba : Int) (q : Bool) (H : Inv size l.length ⟨i, ps, fr, lv, [], xs, o, q, nd⟩) (p : Pl) (hp : ps[k]? = some p) (hl' : p.live = true) (hop : op = 1) (hl : l.length ≤ 200) (h2 : size ≤ 60) (hx : l[i]? = some ⟨op, k, left, h, lba⟩) (hk : k ≤ 1000) :
    WS Try.prog (frameN Try.f4 2) 1 [.c (k1 (k1 (k2 (k1 (k2 (k2 (k2 (k2 (k2 (k2 (k2 (k2 (k2 (kb Try.f4))))))))))))))] (slt (SSp size (some (0,0)) l.length c ⟨i, ps, fr, lv, [], xs, o, q, nd⟩)) (mem 0 (MMp l ⟨i, ps, fr, lv, [], xs, o, q, nd⟩)) (PostP size l c ⟨i, ps, fr, lv, [], xs, o, q, nd⟩) := by
  have hi : i < l.length := (List.getElem?_eq_some_iff.1 hx).1
  have hlen : ps.length = size + 1 := H.len
  have hnl : nd.length = size + 1 := H.nlen
  have hlv : lv = size - ([] : List Nat).length := H.lv
  have hle : ([] : List Nat).length ≤ size := free_le H
  have hllen : (lives ps).length = size + 1 := by simp [lives, hlen]
  have hL : k < size + 1 → (lives ps)[k]? = some (((lives ps)[k]?).getD false) := fun hk => by rw [List.getElem?_eq_getElem (by rw [hllen]; exact hk)]; rfl
  subst hop
  have hkl := (List.getElem?_eq_some_iff.1 hp).1
  obtain ⟨hk0, hno⟩ := (H.live k p hp).1 hl'
  have hLy : (lives ps)[k]? = some true := by rw [lives_get hp, hl']
  have hnd := H.nd k p hp hl'
  simp only [List.length_nil, List.length_cons] at hle
  have H' := inv_give H hi hp hl' [(k : Int)] 0 false rfl
  have W := whole_inv H' h2
  have T := give_yes ps k fr lv p hp hl' (by omega) (by simp at hlv; have := nod_lt H hp hl'; simp at this; omega) (by omega)
  have hst : setL (cellsR rwB (lives ps)) k [.b false] = cellsR rwB (lives (ps.set k ⟨false, fr, 0, 0, 0, 0, 0, 0⟩)) := (cellsB_set (by omega)).trans (by rw [lives_set])
  simp only [roBlk, List.length_nil, List.length_cons] at W

  simp only [SSp, MMp, freeBlk, hlen, List.length_cons, List.length_nil]
  refine WS.pseq rfl ?_
  refine WS.pseq rfl ?_
  refine WS.pregion rfl ?_
  refine WS.po (tb := tb) rfl rfl rfl rfl rfl ?_
  refine WS.po (tb := tb) rfl rfl rfl rfl rfl ?_
  refine WS.po (tb := tb) rfl rfl rfl rfl rfl ?_
  refine WS.poDT (tb := tb) rfl rfl rfl rfl rfl (by omega) ?_
  refine WS.pend rfl ?_
  refine WS.pcondT rfl rfl ?_
  refine WS.pskip rfl ?_
  refine WS.pseq rfl ?_
  refine WS.pblock rfl ?_
  refine WS.pseq rfl ?_
  refine WS.pregion rfl ?_
  refine WS.po (tb := tb) rfl rfl rfl rfl rfl ?_
  refine WS.po (tb := tb) rfl rfl rfl rfl rfl ?_
  refine WS.poP (tb := tb) rfl rfl rfl rfl (step_P (evP_index rfl rfl rfl rfl rfl rfl (by omega))) (by simp only [Nat.zero_add, Nat.add_zero, Nat.reduceAdd, Nat.reduceMul, Nat.add_assoc, Nat.mul_one]; exact rfl) ?_
  refine WS.poA (tb := tb) rfl rfl rfl rfl (step_R rfl (evR_loads rfl rfl rfl rfl rfl (by exact (cellsR_part0 (R := rwAct) hx (by exact Nat.le_of_ble_eq_true rfl))) (by exact rfl))) (by simp only [List.drop_zero, List.drop_succ_cons, List.take_succ_cons, List.take_zero, rwPl, rwAct, rwNd]; exact rfl) ?_
  refine WS.po (tb := tb) rfl rfl rfl rfl rfl ?_; rw [new_mem]; simp only [List.cons_append, List.nil_append, vcells, mem_next, List.length_cons, List.length_nil, Nat.zero_add, Nat.reduceAdd, reps, List.append_nil, setL, List.set_cons_zero, List.set_cons_succ, Nat.zero_mul, Nat.reduceMul]
  refine WS.po0 (tb := tb) rfl rfl rfl rfl (step_H rfl rfl (evH_store rfl rfl rfl rfl rfl (Nat.zero_le _) rfl (by simp [vcells]) (Nat.le_of_ble_eq_true rfl))) ?_; rw [upd_mem _ rfl]; simp only [vcells, setL, List.set_cons_zero, List.set_cons_succ]
  refine WS.pend rfl ?_
  refine WS.pseq rfl ?_
  refine WS.pseq rfl ?_
  refine WS.pregion rfl ?_
  refine WS.poP (tb := tb) rfl rfl rfl rfl rfl (by simp only [List.getElem_toArray, List.getElem_cons_zero, List.getElem_cons_succ, Nat.zero_add, Nat.add_zero, Nat.reduceAdd, Nat.reduceMul, Nat.add_assoc, Nat.mul_one, Int.toNat_natCast, Int.reduceToNat, Int.toNat_zero, Nat.zero_mul]; exact rfl) ?_
  refine WS.po (tb := tb) rfl rfl rfl rfl rfl ?_
  refine WS.poB (tb := tb) false rfl rfl rfl rfl rfl rfl ?_
  refine WS.po (tb := tb) rfl rfl rfl rfl rfl ?_
  refine WS.poP (tb := tb) rfl rfl rfl rfl rfl (by simp only [List.getElem_toArray, List.getElem_cons_zero, List.getElem_cons_succ, Nat.zero_add, Nat.add_zero, Nat.reduceAdd, Nat.reduceMul, Nat.add_assoc, Nat.mul_one, Int.toNat_natCast, Int.reduceToNat, Int.toNat_zero, Nat.zero_mul]; exact rfl) ?_
  refine WS.po (tb := tb) rfl rfl rfl rfl rfl ?_
  refine WS.poDF (tb := tb) rfl rfl rfl rfl rfl (by omega) ?_
  refine WS.po (tb := tb) rfl rfl rfl rfl rfl ?_
  refine WS.pend rfl ?_
  refine WS.pcondF rfl rfl ?_
  refine WS.pskip rfl ?_
  refine WS.pseq rfl ?_
  refine WS.pregion rfl ?_
  refine WS.poP (tb := tb) rfl rfl rfl rfl rfl (by simp only [List.getElem_toArray, List.getElem_cons_zero, List.getElem_cons_succ, Nat.zero_add, Nat.add_zero, Nat.reduceAdd, Nat.reduceMul, Nat.add_assoc, Nat.mul_one, Int.toNat_natCast, Int.reduceToNat, Int.toNat_zero, Nat.zero_mul]; exact rfl) ?_
  refine WS.po (tb := tb) rfl rfl rfl rfl rfl ?_
  refine WS.poW (tb := tb) rfl rfl rfl rfl rfl (by simp only [lo]; omega) (by simp only [Am.hi]; omega) ?_
  refine WS.po (tb := tb) rfl rfl rfl rfl rfl ?_
  refine WS.pend rfl ?_
  refine WS.pseq rfl ?_
  refine WS.pregion rfl ?_
  refine WS.poP (tb := tb) rfl rfl rfl rfl rfl (by simp only [List.getElem_toArray, List.getElem_cons_zero, List.getElem_cons_succ, Nat.zero_add, Nat.add_zero, Nat.reduceAdd, Nat.reduceMul, Nat.add_assoc, Nat.mul_one, Int.toNat_natCast, Int.reduceToNat, Int.toNat_zero, Nat.zero_mul]; exact rfl) ?_
  refine WS.po (tb := tb) rfl rfl rfl rfl rfl ?_
  refine WS.poDT (tb := tb) rfl rfl rfl rfl rfl (by omega) ?_
  refine WS.po (tb := tb) rfl rfl rfl rfl rfl ?_
  refine WS.poP (tb := tb) rfl rfl rfl rfl rfl (by simp only [List.getElem_toArray, List.getElem_cons_zero, List.getElem_cons_succ, Nat.zero_add, Nat.add_zero, Nat.reduceAdd, Nat.reduceMul, Nat.add_assoc, Nat.mul_one, Int.toNat_natCast, Int.reduceToNat, Int.toNat_zero, Nat.zero_mul]; exact rfl) ?_
  refine WS.po (tb := tb) rfl rfl rfl rfl rfl ?_
  refine WS.po (tb := tb) rfl rfl rfl rfl rfl ?_
  refine WS.poDT (tb := tb) rfl rfl rfl rfl rfl (by omega) ?_
  refine WS.po (tb := tb) rfl rfl rfl rfl rfl ?_
  refine WS.po (tb := tb) rfl rfl rfl rfl rfl ?_
  refine WS.po (tb := tb) rfl rfl rfl rfl rfl ?_
  refine WS.poP (tb := tb) rfl rfl rfl rfl rfl (by simp only [List.getElem_toArray, List.getElem_cons_zero, List.getElem_cons_succ, Nat.zero_add, Nat.add_zero, Nat.reduceAdd, Nat.reduceMul, Nat.add_assoc, Nat.mul_one, Int.toNat_natCast, Int.reduceToNat, Int.toNat_zero, Nat.zero_mul]; exact rfl) ?_
  refine WS.po (tb := tb) rfl rfl rfl rfl rfl ?_
  refine WS.poP (tb := tb) rfl rfl rfl rfl (step_P (evP_index rfl rfl rfl rfl rfl rfl (by omega))) (by simp only [Nat.zero_add, Nat.add_zero, Nat.reduceAdd, Nat.reduceMul, Nat.add_assoc, Nat.mul_one]; exact rfl) ?_
  refine WS.po (tb := tb) rfl rfl rfl rfl (step_R rfl (evR_load rfl rfl rfl rfl (cellsB_get hLy))) ?_
  refine WS.po (tb := tb) rfl rfl rfl rfl rfl ?_
  refine WS.po (tb := tb) rfl rfl rfl rfl rfl ?_
  refine WS.pend rfl ?_
  refine WS.pseq rfl ?_
  refine WS.pseq rfl ?_
  refine WS.pregion rfl ?_
  refine WS.poP (tb := tb) rfl rfl rfl rfl rfl (by simp only [List.getElem_toArray, List.getElem_cons_zero, List.getElem_cons_succ, Nat.zero_add, Nat.add_zero, Nat.reduceAdd, Nat.reduceMul, Nat.add_assoc, Nat.mul_one, Int.toNat_natCast, Int.reduceToNat, Int.toNat_zero, Nat.zero_mul]; exact rfl) ?_
  refine WS.po (tb := tb) rfl rfl rfl rfl rfl ?_
  refine WS.pend rfl ?_
  refine WS.pblock rfl ?_
  refine WS.pseq rfl ?_
  refine WS.pregion rfl ?_
  refine WS.poB (tb := tb) false rfl rfl rfl rfl rfl rfl ?_
  refine WS.po (tb := tb) rfl rfl rfl rfl rfl ?_
  refine WS.pend rfl ?_
  refine WS.pcondF rfl rfl ?_
  refine WS.pseq rfl ?_
  refine WS.pregion rfl ?_
  refine WS.poB (tb := tb) true rfl rfl rfl rfl rfl rfl ?_
  refine WS.po (tb := tb) rfl rfl rfl rfl rfl ?_
  refine WS.pend rfl ?_
  refine WS.pcondT rfl rfl ?_
  refine WS.pseq rfl ?_
  refine WS.pregion rfl ?_
  refine WS.po (tb := tb) rfl rfl rfl rfl rfl ?_
  refine WS.po (tb := tb) rfl rfl rfl rfl rfl ?_
  refine WS.pcallM (tb := tb) [1,2] T rfl rfl rfl rfl rfl (by (try simp only [mapL, mapV, List.getD_cons_zero, List.getD_cons_succ]); exact rfl) (by simp [okL, okV, arM, hlen, cellsI_sing]) rfl (by simp [embP, okL, okV, mapL, mapV, mem_next, mem_get, mem_ro, mapL_cellsR, okL_cellsR, arM, hlen, cellsI_sing]) rfl ?_; rintro _ _ ⟨rfl, rfl⟩ -; simp only [plugL, setsL, newsL, isOwn, ownB, over, mapL, mapV, List.getD_cons_zero, List.getD_cons_succ, List.set_cons_zero, List.set_cons_succ, List.length_cons, List.length_nil, Nat.reduceAdd, Nat.reduceLT, Nat.zero_add, if_true, if_false, Nat.reduceSub, reduceIte, List.map_cons, List.map_nil, List.append_nil, List.cons_append, List.nil_append, mapL_cellsR, Nat.lt_irrefl, Nat.not_lt_zero, Nat.zero_lt_succ, Nat.lt_add_one, arM, hlen, cellsI_sing]
  refine WS.po (tb := tb) rfl rfl rfl rfl rfl ?_
  refine WS.pend rfl ?_
  refine WS.pseq rfl ?_
  refine WS.pseq rfl ?_
  refine WS.pregion rfl ?_
  refine WS.po (tb := tb) rfl rfl rfl rfl rfl ?_
  refine WS.poB (tb := tb) false rfl rfl rfl rfl rfl rfl ?_
  refine WS.pend rfl ?_
  refine WS.pcondF rfl rfl ?_
  refine WS.pskip rfl ?_
  refine WS.pseq rfl ?_
  refine WS.pseq rfl ?_
  refine WS.pregion rfl ?_
  refine WS.po (tb := tb) rfl rfl rfl rfl rfl ?_
  refine WS.poB (tb := tb) false rfl rfl rfl rfl rfl rfl ?_
  refine WS.pend rfl ?_
  refine WS.pcondF rfl rfl ?_
  refine WS.pskip rfl ?_
  refine WS.pseq rfl ?_
  refine WS.pregion rfl ?_
  refine WS.po (tb := tb) rfl rfl rfl rfl rfl ?_
  refine WS.po (tb := tb) rfl rfl rfl rfl rfl ?_
  refine WS.poP (tb := tb) rfl rfl rfl rfl (step_P (evP_index rfl rfl rfl rfl rfl rfl (by omega))) (by simp only [Nat.zero_add, Nat.add_zero, Nat.reduceAdd, Nat.reduceMul, Nat.add_assoc, Nat.mul_one]; exact rfl) ?_
  refine WS.po0 (tb := tb) rfl rfl rfl rfl (step_H rfl rfl (evH_store rfl rfl rfl rfl rfl (Nat.zero_le _) rfl (by simp [vcells]) (by simp only [Pl_len, Act_len, Nd_len, vcells, List.length_cons, List.length_nil, cellsI_len, cellsB_len, List.length_set, List.length_replicate, List.length_append, List.length_map, List.length_take, List.length_drop, hllen, hnl]; omega))) ?_; rw [upd_mem _ rfl]; simp only [vcells, List.set_cons_zero, List.set_cons_succ, hst, arM, hlen, cellsI_sing]; (try simp only [setL, List.set_cons_zero, List.set_cons_succ])
  refine WS.pend rfl ?_
  refine WS.pregion rfl ?_
  refine WS.po (tb := tb) rfl rfl rfl rfl rfl ?_
  refine WS.po (tb := tb) rfl rfl rfl rfl rfl ?_; rw [new_mem]; simp only [List.cons_append, List.nil_append, vcells, mem_next, List.length_cons, List.length_nil, Nat.zero_add, Nat.reduceAdd, reps, List.append_nil, setL, List.set_cons_zero, List.set_cons_succ, Nat.zero_mul, Nat.reduceMul]
  refine WS.po (tb := tb) rfl rfl rfl rfl rfl ?_
  refine WS.po (tb := tb) rfl rfl rfl rfl (step_H rfl rfl (evH_append_none rfl rfl rfl rfl rfl rfl rfl rfl rfl (by omega) (by omega))) ?_; (try rw [upd_mem _ rfl]); (try rw [new_mem]); (try simp only [List.set_cons_zero, List.set_cons_succ, List.cons_append, List.nil_append, mem_next, List.length_cons, List.length_nil, Nat.zero_add, Nat.reduceAdd, List.drop_zero, vcells, cellsI_app1, cellsB_app1, cellsI_cons, repsI, repsB, Pl_app1, Pl_reps, Act_app1, Act_reps, Nd_app1, Nd_reps, hst, arM, hlen, cellsI_sing])
  refine WS.po (tb := tb) rfl rfl rfl rfl rfl ?_
  refine WS.pend rfl ?_
  refine WS.pseq rfl ?_
  refine WS.pregion rfl ?_
  refine WS.po (tb := tb) rfl rfl rfl rfl rfl ?_
  refine WS.po (tb := tb) rfl rfl rfl rfl rfl ?_
  refine WS.po (tb := tb) rfl rfl rfl rfl rfl ?_
  refine WS.pcallM (tb := tb) [1,2,7,4] W rfl rfl rfl rfl rfl (by (try simp only [mapL, mapV, List.getD_cons_zero, List.getD_cons_succ]); exact rfl) (by simp [okL, okV, arM, hlen, cellsI_sing]) rfl (by simp [embP, okL, okV, mapL, mapV, mem_next, mem_get, mem_ro, mapL_cellsR, okL_cellsR, arM, hlen, cellsI_sing]) rfl ?_; rintro _ _ ⟨rfl, rfl⟩ -; simp only [plugL, setsL, newsL, isOwn, ownB, over, mapL, mapV, List.getD_cons_zero, List.getD_cons_succ, List.set_cons_zero, List.set_cons_succ, List.length_cons, List.length_nil, Nat.reduceAdd, Nat.reduceLT, Nat.zero_add, if_true, if_false, Nat.reduceSub, reduceIte, List.map_cons, List.map_nil, List.append_nil, List.cons_append, List.nil_append, mapL_cellsR, Nat.lt_irrefl, Nat.not_lt_zero, Nat.zero_lt_succ, Nat.lt_add_one, arM, hlen, cellsI_sing]
  refine WS.poB (tb := tb) false rfl rfl rfl rfl rfl rfl ?_
  refine WS.pend rfl ?_
  refine WS.pcondF rfl rfl ?_
  refine WS.pskip rfl ?_
  refine WS.pregion rfl ?_
  refine WS.po (tb := tb) rfl rfl rfl rfl rfl ?_
  refine WS.poW (tb := tb) rfl rfl rfl rfl rfl (by simp only [lo]; omega) (by simp only [Am.hi]; omega) ?_
  refine WS.po (tb := tb) rfl rfl rfl rfl rfl ?_
  refine WS.pend rfl ?_
  refine WS.nil ?_
  all_goals exact ⟨_, H', by simp only; omega, (SeenBy.seen (v := [0,1,2,7,4,5]) ⟨rfl, rfl, (by simp [viewP, okL, okV, mapL, mapV, mem_get, mapL_cellsR, okL_cellsR, SSp, MMp, freeBlk, hlen, List.length_set, cellsI_sing]), (by first | exact rfl | exact own2_dist rfl rfl), (by simp only [slotsP, okV, okL, mapV, mapL, and_true, true_and, List.length_cons, List.length_nil, List.length_append, List.length_map, Nat.reduceAdd, Nat.reduceLT, SSp, MMp, freeBlk, hlen, List.length_set, cellsI_sing]; repeat' (first | exact rfl | refine ⟨?_, ?_⟩ | exact lk_m rfl (hmp _ rfl) | exact hok _ (Nat.le_of_ble_eq_true rfl) | exact lk_i rfl (by omega) | exact lk_sl rfl (by omega) (by omega) (by omega) | decide | omega))⟩)⟩

theorem bd_p1n (size : Nat) (l : List Act) (c i : Nat) (ps : List Pl) (fr lv : Int) (xs : List Int) (o : Nat) (nd : List Nd) (k : Nat) (op left h lba : Int) (q : Bool) (H : Inv size l.length ⟨i, ps, fr, lv, [], xs, o, q, nd⟩) (p : Pl) (hp : ps[k]? = some p) (hl' : p.live = true) (hop : op = 2) (hl : l.length ≤ 200) (h2 : size ≤ 60) (hx : l[i]? = some ⟨op, k, left, h, lba⟩) (hk : k ≤ 1000) :
    WS Try.prog (frameN Try.f4 2) 1 [.c (k1 (k1 (k2 (k1 (k2 (k2 (k2 (k2 (k2 (k2 (k2 (k2 (k2 (kb Try.f4))))))))))))))] (slt (SSp size (some (0,0)) l.length c ⟨i, ps, fr, lv, [], xs, o, q, nd⟩)) (mem 0 (MMp l ⟨i, ps, fr, lv, [], xs, o, q, nd⟩)) (PostP size l c ⟨i, ps, fr, lv, [], xs, o, q, nd⟩) := by
  have hi : i < l.length := (List.getElem?_eq_some_iff.1 hx).1
  have hlen : ps.length = size + 1 := H.len
  have hnl : nd.length = size + 1 := H.nlen
  have hlv : lv = size - ([] : List Nat).length := H.lv
  have hle : ([] : List Nat).length ≤ size := free_le H
  have hllen : (lives ps).length = size + 1 := by simp [lives, hlen]
  have hL : k < size + 1 → (lives ps)[k]? = some (((lives ps)[k]?).getD false) := fun hk => by rw [List.getElem?_eq_getElem (by rw [hllen]; exact hk)]; rfl
  subst hop
  have hkl := (List.getElem?_eq_some_iff.1 hp).1
  obtain ⟨hk0, hno⟩ := (H.live k p hp).1 hl'
  have hLy : (lives ps)[k]? = some true := by rw [lives_get hp, hl']
  have hnd := H.nd k p hp hl'
  simp only [List.length_nil, List.length_cons] at hle
  have H' := inv_put H hi hp hl' (wr .u32 left) (wr .u32 lba) h lba left h
  have W := whole_inv H' h2
  have T := put_yes ps k fr lv p (wr .u32 left) (wr .u32 lba) h lba left h hp hl' (by omega)
  have hst : cellsR rwB (lives ps) = cellsR rwB (lives (ps.set k ⟨true, p.next, wr .u32 left, wr .u32 lba, h, lba, left, h⟩)) := by
    rw [lives_set, ← hl']; congr 1
    exact (List.set_getElem?_self (lives_get hp)).symm
  have hst2 := hst.symm
  rw [← hst] at W
  simp only [roBlk, List.length_nil, List.length_cons] at W

  simp only [SSp, MMp, freeBlk, hlen, List.length_cons, List.length_nil]
  refine WS.pseq rfl ?_
  refine WS.pseq rfl ?_
  refine WS.pregion rfl ?_
  refine WS.po (tb := tb) rfl rfl rfl rfl rfl ?_
  refine WS.po (tb := tb) rfl rfl rfl rfl rfl ?_
  refine WS.po (tb := tb) rfl rfl rfl rfl rfl ?_
  refine WS.poDT (tb := tb) rfl rfl rfl rfl rfl (by omega) ?_
  refine WS.pend rfl ?_
  refine WS.pcondT rfl rfl ?_
  refine WS.pskip rfl ?_
  refine WS.pseq rfl ?_
  refine WS.pblock rfl ?_
  refine WS.pseq rfl ?_
  refine WS.pregion rfl ?_
  refine WS.po (tb := tb) rfl rfl rfl rfl rfl ?_
  refine WS.po (tb := tb) rfl rfl rfl rfl rfl ?_
  refine WS.poP (tb := tb) rfl rfl rfl rfl (step_P (evP_index rfl rfl rfl rfl rfl rfl (by omega))) (by simp only [Nat.zero_add, Nat.add_zero, Nat.reduceAdd, Nat.reduceMul, Nat.add_assoc, Nat.mul_one]; exact rfl) ?_
  refine WS.poA (tb := tb) rfl rfl rfl rfl (step_R rfl (evR_loads rfl rfl rfl rfl rfl (by exact (cellsR_part0 (R := rwAct) hx (by exact Nat.le_of_ble_eq_true rfl))) (by exact rfl))) (by simp only [List.drop_zero, List.drop_succ_cons, List.take_succ_cons, List.take_zero, rwPl, rwAct, rwNd]; exact rfl) ?_
  refine WS.po (tb := tb) rfl rfl rfl rfl rfl ?_; rw [new_mem]; simp only [List.cons_append, List.nil_append, vcells, mem_next, List.length_cons, List.length_nil, Nat.zero_add, Nat.reduceAdd, reps, List.append_nil, setL, List.set_cons_zero, List.set_cons_succ, Nat.zero_mul, Nat.reduceMul]
  refine WS.po0 (tb := tb) rfl rfl rfl rfl (step_H rfl rfl (evH_store rfl rfl rfl rfl rfl (Nat.zero_le _) rfl (by simp [vcells]) (Nat.le_of_ble_eq_true rfl))) ?_; rw [upd_mem _ rfl]; simp only [vcells, setL, List.set_cons_zero, List.set_cons_succ]
  refine WS.pend rfl ?_
  refine WS.pseq rfl ?_
  refine WS.pseq rfl ?_
  refine WS.pregion rfl ?_
  refine WS.poP (tb := tb) rfl rfl rfl rfl rfl (by simp only [List.getElem_toArray, List.getElem_cons_zero, List.getElem_cons_succ, Nat.zero_add, Nat.add_zero, Nat.reduceAdd, Nat.reduceMul, Nat.add_assoc, Nat.mul_one, Int.toNat_natCast, Int.reduceToNat, Int.toNat_zero, Nat.zero_mul]; exact rfl) ?_
  refine WS.po (tb := tb) rfl rfl rfl rfl rfl ?_
  refine WS.poB (tb := tb) false rfl rfl rfl rfl rfl rfl ?_
  refine WS.po (tb := tb) rfl rfl rfl rfl rfl ?_
  refine WS.poP (tb := tb) rfl rfl rfl rfl rfl (by simp only [List.getElem_toArray, List.getElem_cons_zero, List.getElem_cons_succ, Nat.zero_add, Nat.add_zero, Nat.reduceAdd, Nat.reduceMul, Nat.add_assoc, Nat.mul_one, Int.toNat_natCast, Int.reduceToNat, Int.toNat_zero, Nat.zero_mul]; exact rfl) ?_
  refine WS.po (tb := tb) rfl rfl rfl rfl rfl ?_
  refine WS.poDF (tb := tb) rfl rfl rfl rfl rfl (by omega) ?_
  refine WS.po (tb := tb) rfl rfl rfl rfl rfl ?_
  refine WS.pend rfl ?_
  refine WS.pcondF rfl rfl ?_
  refine WS.pskip rfl ?_
  refine WS.pseq rfl ?_
  refine WS.pregion rfl ?_
  refine WS.poP (tb := tb) rfl rfl rfl rfl rfl (by simp only [List.getElem_toArray, List.getElem_cons_zero, List.getElem_cons_succ, Nat.zero_add, Nat.add_zero, Nat.reduceAdd, Nat.reduceMul, Nat.add_assoc, Nat.mul_one, Int.toNat_natCast, Int.reduceToNat, Int.toNat_zero, Nat.zero_mul]; exact rfl) ?_
  refine WS.po (tb := tb) rfl rfl rfl rfl rfl ?_
  refine WS.poW (tb := tb) rfl rfl rfl rfl rfl (by simp only [lo]; omega) (by simp only [Am.hi]; omega) ?_
  refine WS.po (tb := tb) rfl rfl rfl rfl rfl ?_
  refine WS.pend rfl ?_
  refine WS.pseq rfl ?_
  refine WS.pregion rfl ?_
  refine WS.poP (tb := tb) rfl rfl rfl rfl rfl (by simp only [List.getElem_toArray, List.getElem_cons_zero, List.getElem_cons_succ, Nat.zero_add, Nat.add_zero, Nat.reduceAdd, Nat.reduceMul, Nat.add_assoc, Nat.mul_one, Int.toNat_natCast, Int.reduceToNat, Int.toNat_zero, Nat.zero_mul]; exact rfl) ?_
  refine WS.po (tb := tb) rfl rfl rfl rfl rfl ?_
  refine WS.poDT (tb := tb) rfl rfl rfl rfl rfl (by omega) ?_
  refine WS.po (tb := tb) rfl rfl rfl rfl rfl ?_
  refine WS.poP (tb := tb) rfl rfl rfl rfl rfl (by simp only [List.getElem_toArray, List.getElem_cons_zero, List.getElem_cons_succ, Nat.zero_add, Nat.add_zero, Nat.reduceAdd, Nat.reduceMul, Nat.add_assoc, Nat.mul_one, Int.toNat_natCast, Int.reduceToNat, Int.toNat_zero, Nat.zero_mul]; exact rfl) ?_
  refine WS.po (tb := tb) rfl rfl rfl rfl rfl ?_
  refine WS.po (tb := tb) rfl rfl rfl rfl rfl ?_
  refine WS.poDT (tb := tb) rfl rfl rfl rfl rfl (by omega) ?_
  refine WS.po (tb := tb) rfl rfl rfl rfl rfl ?_
  refine WS.po (tb := tb) rfl rfl rfl rfl rfl ?_
  refine WS.po (tb := tb) rfl rfl rfl rfl rfl ?_
  refine WS.poP (tb := tb) rfl rfl rfl rfl rfl (by simp only [List.getElem_toArray, List.getElem_cons_zero, List.getElem_cons_succ, Nat.zero_add, Nat.add_zero, Nat.reduceAdd, Nat.reduceMul, Nat.add_assoc, Nat.mul_one, Int.toNat_natCast, Int.reduceToNat, Int.toNat_zero, Nat.zero_mul]; exact rfl) ?_
  refine WS.po (tb := tb) rfl rfl rfl rfl rfl ?_
  refine WS.poP (tb := tb) rfl rfl rfl rfl (step_P (evP_index rfl rfl rfl rfl rfl rfl (by omega))) (by simp only [Nat.zero_add, Nat.add_zero, Nat.reduceAdd, Nat.reduceMul, Nat.add_assoc, Nat.mul_one]; exact rfl) ?_
  refine WS.po (tb := tb) rfl rfl rfl rfl (step_R rfl (evR_load rfl rfl rfl rfl (cellsB_get hLy))) ?_
  refine WS.po (tb := tb) rfl rfl rfl rfl rfl ?_
  refine WS.po (tb := tb) rfl rfl rfl rfl rfl ?_
  refine WS.pend rfl ?_
  refine WS.pseq rfl ?_
  refine WS.pseq rfl ?_
  refine WS.pregion rfl ?_
  refine WS.poP (tb := tb) rfl rfl rfl rfl rfl (by simp only [List.getElem_toArray, List.getElem_cons_zero, List.getElem_cons_succ, Nat.zero_add, Nat.add_zero, Nat.reduceAdd, Nat.reduceMul, Nat.add_assoc, Nat.mul_one, Int.toNat_natCast, Int.reduceToNat, Int.toNat_zero, Nat.zero_mul]; exact rfl) ?_
  refine WS.po (tb := tb) rfl rfl rfl rfl rfl ?_
  refine WS.pend rfl ?_
  refine WS.pblock rfl ?_
  refine WS.pseq rfl ?_
  refine WS.pregion rfl ?_
  refine WS.poB (tb := tb) false rfl rfl rfl rfl rfl rfl ?_
  refine WS.po (tb := tb) rfl rfl rfl rfl rfl ?_
  refine WS.pend rfl ?_
  refine WS.pcondF rfl rfl ?_
  refine WS.pseq rfl ?_
  refine WS.pregion rfl ?_
  refine WS.poB (tb := tb) false rfl rfl rfl rfl rfl rfl ?_
  refine WS.po (tb := tb) rfl rfl rfl rfl rfl ?_
  refine WS.pend rfl ?_
  refine WS.pcondF rfl rfl ?_
  refine WS.pseq rfl ?_
  refine WS.pregion rfl ?_
  refine WS.poB (tb := tb) true rfl rfl rfl rfl rfl rfl ?_
  refine WS.po (tb := tb) rfl rfl rfl rfl rfl ?_
  refine WS.pend rfl ?_
  refine WS.pcondT rfl rfl ?_
  refine WS.pseq rfl ?_
  refine WS.pregion rfl ?_
  refine WS.poP (tb := tb) rfl rfl rfl rfl rfl (by simp only [List.getElem_toArray, List.getElem_cons_zero, List.getElem_cons_succ, Nat.zero_add, Nat.add_zero, Nat.reduceAdd, Nat.reduceMul, Nat.add_assoc, Nat.mul_one, Int.toNat_natCast, Int.reduceToNat, Int.toNat_zero, Nat.zero_mul]; exact rfl) ?_
  refine WS.po (tb := tb) rfl rfl rfl rfl rfl ?_
  refine WS.po (tb := tb) rfl rfl rfl rfl rfl ?_
  refine WS.poP (tb := tb) rfl rfl rfl rfl rfl (by simp only [List.getElem_toArray, List.getElem_cons_zero, List.getElem_cons_succ, Nat.zero_add, Nat.add_zero, Nat.reduceAdd, Nat.reduceMul, Nat.add_assoc, Nat.mul_one, Int.toNat_natCast, Int.reduceToNat, Int.toNat_zero, Nat.zero_mul]; exact rfl) ?_
  refine WS.po (tb := tb) rfl rfl rfl rfl rfl ?_
  refine WS.po (tb := tb) rfl rfl rfl rfl rfl ?_
  refine WS.poP (tb := tb) rfl rfl rfl rfl rfl (by simp only [List.getElem_toArray, List.getElem_cons_zero, List.getElem_cons_succ, Nat.zero_add, Nat.add_zero, Nat.reduceAdd, Nat.reduceMul, Nat.add_assoc, Nat.mul_one, Int.toNat_natCast, Int.reduceToNat, Int.toNat_zero, Nat.zero_mul]; exact rfl) ?_
  refine WS.po (tb := tb) rfl rfl rfl rfl rfl ?_
  refine WS.poP (tb := tb) rfl rfl rfl rfl rfl (by simp only [List.getElem_toArray, List.getElem_cons_zero, List.getElem_cons_succ, Nat.zero_add, Nat.add_zero, Nat.reduceAdd, Nat.reduceMul, Nat.add_assoc, Nat.mul_one, Int.toNat_natCast, Int.reduceToNat, Int.toNat_zero, Nat.zero_mul]; exact rfl) ?_
  refine WS.po (tb := tb) rfl rfl rfl rfl rfl ?_
  refine WS.poP (tb := tb) rfl rfl rfl rfl rfl (by simp only [List.getElem_toArray, List.getElem_cons_zero, List.getElem_cons_succ, Nat.zero_add, Nat.add_zero, Nat.reduceAdd, Nat.reduceMul, Nat.add_assoc, Nat.mul_one, Int.toNat_natCast, Int.reduceToNat, Int.toNat_zero, Nat.zero_mul]; exact rfl) ?_
  refine WS.po (tb := tb) rfl rfl rfl rfl rfl ?_
  refine WS.poP (tb := tb) rfl rfl rfl rfl rfl (by simp only [List.getElem_toArray, List.getElem_cons_zero, List.getElem_cons_succ, Nat.zero_add, Nat.add_zero, Nat.reduceAdd, Nat.reduceMul, Nat.add_assoc, Nat.mul_one, Int.toNat_natCast, Int.reduceToNat, Int.toNat_zero, Nat.zero_mul]; exact rfl) ?_
  refine WS.po (tb := tb) rfl rfl rfl rfl rfl ?_
  refine WS.poA (tb := tb) rfl rfl rfl rfl rfl (by simp only [vcells, setL, List.set_cons_zero, List.set_cons_succ, List.getElem_toArray, List.getElem_cons_zero, List.getElem_cons_succ, Nat.zero_add, Nat.add_zero, Nat.reduceAdd, Nat.reduceMul, Nat.add_assoc, Nat.mul_one, Int.toNat_natCast, Int.reduceToNat, Int.toNat_zero, Nat.zero_mul]; exact rfl) ?_
  refine WS.poA (tb := tb) rfl rfl rfl rfl rfl (by simp only [vcells, setL, List.set_cons_zero, List.set_cons_succ, List.getElem_toArray, List.getElem_cons_zero, List.getElem_cons_succ, Nat.zero_add, Nat.add_zero, Nat.reduceAdd, Nat.reduceMul, Nat.add_assoc, Nat.mul_one, Int.toNat_natCast, Int.reduceToNat, Int.toNat_zero, Nat.zero_mul]; exact rfl) ?_
  refine WS.po (tb := tb) rfl rfl rfl rfl rfl ?_; rw [new_mem]; simp only [List.cons_append, List.nil_append, vcells, mem_next, List.length_cons, List.length_nil, Nat.zero_add, Nat.reduceAdd, reps, List.append_nil, setL, List.set_cons_zero, List.set_cons_succ, Nat.zero_mul, Nat.reduceMul]
  refine WS.po0 (tb := tb) rfl rfl rfl rfl (step_H rfl rfl (evH_store rfl rfl rfl rfl rfl (Nat.zero_le _) rfl (by simp [vcells]) (Nat.le_of_ble_eq_true rfl))) ?_; rw [upd_mem _ rfl]; simp only [vcells, setL, List.set_cons_zero, List.set_cons_succ]
  refine WS.pend rfl ?_
  refine WS.pseq rfl ?_
  refine WS.pseq rfl ?_
  refine WS.pregion rfl ?_
  refine WS.po (tb := tb) rfl rfl rfl rfl rfl ?_
  refine WS.po (tb := tb) rfl rfl rfl rfl rfl ?_
  refine WS.poA (tb := tb) rfl rfl rfl rfl rfl (by simp only [List.drop_zero, List.drop_succ_cons, List.take_succ_cons, List.take_zero, rwPl, rwAct, rwNd]; exact rfl) ?_
  refine WS.pcallM (tb := tb) [1,2] T rfl rfl rfl rfl rfl (by (try simp only [mapL, mapV, List.getD_cons_zero, List.getD_cons_succ]); exact rfl) (by simp [okL, okV, arM, hlen]) rfl (by simp [embP, okL, okV, mapL, mapV, mem_next, mem_get, mem_ro, mapL_cellsR, okL_cellsR, arM, hlen]) rfl ?_; rintro _ _ ⟨rfl, rfl⟩ -; simp only [plugL, setsL, newsL, isOwn, ownB, over, mapL, mapV, List.getD_cons_zero, List.getD_cons_succ, List.set_cons_zero, List.set_cons_succ, List.length_cons, List.length_nil, Nat.reduceAdd, Nat.reduceLT, Nat.zero_add, if_true, if_false, Nat.reduceSub, reduceIte, List.map_cons, List.map_nil, List.append_nil, List.cons_append, List.nil_append, mapL_cellsR, Nat.lt_irrefl, Nat.not_lt_zero, Nat.zero_lt_succ, Nat.lt_add_one, arM, hlen]
  refine WS.poB (tb := tb) true rfl rfl rfl rfl rfl rfl ?_
  refine WS.po (tb := tb) rfl rfl rfl rfl rfl ?_
  refine WS.poB (tb := tb) false rfl rfl rfl rfl rfl rfl ?_
  refine WS.pend rfl ?_
  refine WS.pcondF rfl rfl ?_
  refine WS.pskip rfl ?_
  refine WS.pseq rfl ?_
  refine WS.pregion rfl ?_
  refine WS.po (tb := tb) rfl rfl rfl rfl rfl ?_
  refine WS.pend rfl ?_
  refine WS.pcondT rfl rfl ?_
  refine WS.pregion rfl ?_
  refine WS.po (tb := tb) rfl rfl rfl rfl rfl ?_
  refine WS.po (tb := tb) rfl rfl rfl rfl rfl ?_
  refine WS.poA (tb := tb) rfl rfl rfl rfl rfl (by simp only [List.drop_zero, List.drop_succ_cons, List.take_succ_cons, List.take_zero, rwPl, rwAct, rwNd]; exact rfl) ?_
  refine WS.poP (tb := tb) rfl rfl rfl rfl (step_P (evP_index rfl rfl rfl rfl rfl rfl (by omega))) (by simp only [Nat.zero_add, Nat.add_zero, Nat.reduceAdd, Nat.reduceMul, Nat.add_assoc, Nat.mul_one]; exact rfl) ?_
  refine WS.po0 (tb := tb) rfl rfl rfl rfl (step_H rfl rfl (evH_store rfl rfl rfl rfl rfl (Nat.zero_le _) rfl (by simp [vcells]) (by simp only [Pl_len, Act_len, Nd_len, vcells, List.length_cons, List.length_nil, cellsI_len, cellsB_len, List.length_set, List.length_replicate, List.length_append, List.length_map, List.length_take, List.length_drop, hllen, hnl]; omega))) ?_; rw [upd_mem _ rfl]; simp only [vcells, List.set_cons_zero, List.set_cons_succ, (Nd_set hnd), arM, hlen]; (try simp only [setL, List.set_cons_zero, List.set_cons_succ])
  refine WS.pend rfl ?_
  refine WS.pseq rfl ?_
  refine WS.pregion rfl ?_
  refine WS.po (tb := tb) rfl rfl rfl rfl rfl ?_
  refine WS.po (tb := tb) rfl rfl rfl rfl rfl ?_
  refine WS.po (tb := tb) rfl rfl rfl rfl rfl ?_
  refine WS.pcallM (tb := tb) [1,2,3,4] W rfl rfl rfl rfl rfl (by (try simp only [mapL, mapV, List.getD_cons_zero, List.getD_cons_succ]); exact rfl) (by simp [okL, okV, arM, hlen]) rfl (by simp [embP, okL, okV, mapL, mapV, mem_next, mem_get, mem_ro, mapL_cellsR, okL_cellsR, arM, hlen]) rfl ?_; rintro _ _ ⟨rfl, rfl⟩ -; simp only [plugL, setsL, newsL, isOwn, ownB, over, mapL, mapV, List.getD_cons_zero, List.getD_cons_succ, List.set_cons_zero, List.set_cons_succ, List.length_cons, List.length_nil, Nat.reduceAdd, Nat.reduceLT, Nat.zero_add, if_true, if_false, Nat.reduceSub, reduceIte, List.map_cons, List.map_nil, List.append_nil, List.cons_append, List.nil_append, mapL_cellsR, Nat.lt_irrefl, Nat.not_lt_zero, Nat.zero_lt_succ, Nat.lt_add_one, arM, hlen]
  refine WS.poB (tb := tb) false rfl rfl rfl rfl rfl rfl ?_
  refine WS.pend rfl ?_
  refine WS.pcondF rfl rfl ?_
  refine WS.pskip rfl ?_
  refine WS.pregion rfl ?_
  refine WS.po (tb := tb) rfl rfl rfl rfl rfl ?_
  refine WS.poW (tb := tb) rfl rfl rfl rfl rfl (by simp only [lo]; omega) (by simp only [Am.hi]; omega) ?_
  refine WS.po (tb := tb) rfl rfl rfl rfl rfl ?_
  refine WS.pend rfl ?_
  refine WS.nil ?_
  all_goals exact ⟨_, H', by simp only; omega, (SeenBy.seen (v := [0,1,2,3,4,5]) ⟨rfl, rfl, (by simp [viewP, okL, okV, mapL, mapV, mem_get, mapL_cellsR, okL_cellsR, SSp, MMp, freeBlk, hlen, List.length_set, hst2]), (by first | exact rfl | exact own2_dist rfl rfl), (by simp only [slotsP, okV, okL, mapV, mapL, and_true, true_and, List.length_cons, List.length_nil, List.length_append, List.length_map, Nat.reduceAdd, Nat.reduceLT, SSp, MMp, freeBlk, hlen, List.length_set, hst2]; repeat' (first | exact rfl | refine ⟨?_, ?_⟩ | exact lk_m rfl (hmp _ rfl) | exact hok _ (Nat.le_of_ble_eq_true rfl) | exact lk_i rfl (by omega) | exact lk_sl rfl (by omega) (by omega) (by omega) | decide | omega))⟩)⟩

theorem bd_q1n (size : Nat) (l : List Act) (c i : Nat) (ps : List Pl) (fr lv : Int) (xs : List Int) (o : Nat) (nd : List Nd) (k : Nat) (op left h lba : Int) (q : Bool) (H : Inv size l.length ⟨i, ps, fr, lv, [], xs, o, q, nd⟩) (p : Pl) (hp : ps[k]? = some p) (hl' : p.live = true) (hop : op ≠ 0 ∧ op ≠ 1 ∧ op ≠ 2) (hl : l.length ≤ 200) (h2 : size ≤ 60) (hx : l[i]? = some ⟨op, k, left, h, lba⟩) (hk : k ≤ 1000) :
    WS Try.prog (frameN Try.f4 2) 1 [.c (k1 (k1 (k2 (k1 (k2 (k2 (k2 (k2 (k2 (k2 (k2 (k2 (k2 (kb Try.f4))))))))))))))] (slt (SSp size (some (0,0)) l.length c ⟨i, ps, fr, lv, [], xs, o, q, nd⟩)) (mem 0 (MMp l ⟨i, ps, fr, lv, [], xs, o, q, nd⟩)) (PostP size l c ⟨i, ps, fr, lv, [], xs, o, q, nd⟩) := by
  have hi : i < l.length := (List.getElem?_eq_some_iff.1 hx).1
  have hlen : ps.length = size + 1 := H.len
  have hnl : nd.length = size + 1 := H.nlen
  have hlv : lv = size - ([] : List Nat).length := H.lv
  have hle : ([] : List Nat).length ≤ size := free_le H
  have hllen : (lives ps).length = size + 1 := by simp [lives, hlen]
  have hL : k < size + 1 → (lives ps)[k]? = some (((lives ps)[k]?).getD false) := fun hk => by rw [List.getElem?_eq_getElem (by rw [hllen]; exact hk)]; rfl
  have hkl := (List.getElem?_eq_some_iff.1 hp).1
  obtain ⟨hk0, hno⟩ := (H.live k p hp).1 hl'
  have hLy : (lives ps)[k]? = some true := by rw [lives_get hp, hl']
  have hnd := H.nd k p hp hl'
  simp only [List.length_nil, List.length_cons] at hle
  have H' := inv_next H hi
  have W := whole_inv H' h2
  have T := get_yes ps k fr lv p hp hl' (by omega)
  simp only [roBlk, List.length_nil, List.length_cons] at W

  simp only [SSp, MMp, freeBlk, hlen, List.length_cons, List.length_nil]
  refine WS.pseq rfl ?_
  refine WS.pseq rfl ?_
  refine WS.pregion rfl ?_
  refine WS.po (tb := tb) rfl rfl rfl rfl rfl ?_
  refine WS.po (tb := tb) rfl rfl rfl rfl rfl ?_
  refine WS.po (tb := tb) rfl rfl rfl rfl rfl ?_
  refine WS.poDT (tb := tb) rfl rfl rfl rfl rfl (by omega) ?_
  refine WS.pend rfl ?_
  refine WS.pcondT rfl rfl ?_
  refine WS.pskip rfl ?_
  refine WS.pseq rfl ?_
  refine WS.pblock rfl ?_
  refine WS.pseq rfl ?_
  refine WS.pregion rfl ?_
  refine WS.po (tb := tb) rfl rfl rfl rfl rfl ?_
  refine WS.po (tb := tb) rfl rfl rfl rfl rfl ?_
  refine WS.poP (tb := tb) rfl rfl rfl rfl (step_P (evP_index rfl rfl rfl rfl rfl rfl (by omega))) (by simp only [Nat.zero_add, Nat.add_zero, Nat.reduceAdd, Nat.reduceMul, Nat.add_assoc, Nat.mul_one]; exact rfl) ?_
  refine WS.poA (tb := tb) rfl rfl rfl rfl (step_R rfl (evR_loads rfl rfl rfl rfl rfl (by exact (cellsR_part0 (R := rwAct) hx (by exact Nat.le_of_ble_eq_true rfl))) (by exact rfl))) (by simp only [List.drop_zero, List.drop_succ_cons, List.take_succ_cons, List.take_zero, rwPl, rwAct, rwNd]; exact rfl) ?_
  refine WS.po (tb := tb) rfl rfl rfl rfl rfl ?_; rw [new_mem]; simp only [List.cons_append, List.nil_append, vcells, mem_next, List.length_cons, List.length_nil, Nat.zero_add, Nat.reduceAdd, reps, List.append_nil, setL, List.set_cons_zero, List.set_cons_succ, Nat.zero_mul, Nat.reduceMul]
  refine WS.po0 (tb := tb) rfl rfl rfl rfl (step_H rfl rfl (evH_store rfl rfl rfl rfl rfl (Nat.zero_le _) rfl (by simp [vcells]) (Nat.le_of_ble_eq_true rfl))) ?_; rw [upd_mem _ rfl]; simp only [vcells, setL, List.set_cons_zero, List.set_cons_succ]
  refine WS.pend rfl ?_
  refine WS.pseq rfl ?_
  refine WS.pseq rfl ?_
  refine WS.pregion rfl ?_
  refine WS.poP (tb := tb) rfl rfl rfl rfl rfl (by simp only [List.getElem_toArray, List.getElem_cons_zero, List.getElem_cons_succ, Nat.zero_add, Nat.add_zero, Nat.reduceAdd, Nat.reduceMul, Nat.add_assoc, Nat.mul_one, Int.toNat_natCast, Int.reduceToNat, Int.toNat_zero, Nat.zero_mul]; exact rfl) ?_
  refine WS.po (tb := tb) rfl rfl rfl rfl rfl ?_
  refine WS.poB (tb := tb) false rfl rfl rfl rfl rfl rfl ?_
  refine WS.po (tb := tb) rfl rfl rfl rfl rfl ?_
  refine WS.poP (tb := tb) rfl rfl rfl rfl rfl (by simp only [List.getElem_toArray, List.getElem_cons_zero, List.getElem_cons_succ, Nat.zero_add, Nat.add_zero, Nat.reduceAdd, Nat.reduceMul, Nat.add_assoc, Nat.mul_one, Int.toNat_natCast, Int.reduceToNat, Int.toNat_zero, Nat.zero_mul]; exact rfl) ?_
  refine WS.po (tb := tb) rfl rfl rfl rfl rfl ?_
  refine WS.poDF (tb := tb) rfl rfl rfl rfl rfl (by omega) ?_
  refine WS.po (tb := tb) rfl rfl rfl rfl rfl ?_
  refine WS.pend rfl ?_
  refine WS.pcondF rfl rfl ?_
  refine WS.pskip rfl ?_
  refine WS.pseq rfl ?_
  refine WS.pregion rfl ?_
  refine WS.poP (tb := tb) rfl rfl rfl rfl rfl (by simp only [List.getElem_toArray, List.getElem_cons_zero, List.getElem_cons_succ, Nat.zero_add, Nat.add_zero, Nat.reduceAdd, Nat.reduceMul, Nat.add_assoc, Nat.mul_one, Int.toNat_natCast, Int.reduceToNat, Int.toNat_zero, Nat.zero_mul]; exact rfl) ?_
  refine WS.po (tb := tb) rfl rfl rfl rfl rfl ?_
  refine WS.poW (tb := tb) rfl rfl rfl rfl rfl (by simp only [lo]; omega) (by simp only [Am.hi]; omega) ?_
  refine WS.po (tb := tb) rfl rfl rfl rfl rfl ?_
  refine WS.pend rfl ?_
  refine WS.pseq rfl ?_
  refine WS.pregion rfl ?_
  refine WS.poP (tb := tb) rfl rfl rfl rfl rfl (by simp only [List.getElem_toArray, List.getElem_cons_zero, List.getElem_cons_succ, Nat.zero_add, Nat.add_zero, Nat.reduceAdd, Nat.reduceMul, Nat.add_assoc, Nat.mul_one, Int.toNat_natCast, Int.reduceToNat, Int.toNat_zero, Nat.zero_mul]; exact rfl) ?_
  refine WS.po (tb := tb) rfl rfl rfl rfl rfl ?_
  refine WS.poDT (tb := tb) rfl rfl rfl rfl rfl (by omega) ?_
  refine WS.po (tb := tb) rfl rfl rfl rfl rfl ?_
  refine WS.poP (tb := tb) rfl rfl rfl rfl rfl (by simp only [List.getElem_toArray, List.getElem_cons_zero, List.getElem_cons_succ, Nat.zero_add, Nat.add_zero, Nat.reduceAdd, Nat.reduceMul, Nat.add_assoc, Nat.mul_one, Int.toNat_natCast, Int.reduceToNat, Int.toNat_zero, Nat.zero_mul]; exact rfl) ?_
  refine WS.po (tb := tb) rfl rfl rfl rfl rfl ?_
  refine WS.po (tb := tb) rfl rfl rfl rfl rfl ?_
  refine WS.poDT (tb := tb) rfl rfl rfl rfl rfl (by omega) ?_
  refine WS.po (tb := tb) rfl rfl rfl rfl rfl ?_
  refine WS.po (tb := tb) rfl rfl rfl rfl rfl ?_
  refine WS.po (tb := tb) rfl rfl rfl rfl rfl ?_
  refine WS.poP (tb := tb) rfl rfl rfl rfl rfl (by simp only [List.getElem_toArray, List.getElem_cons_zero, List.getElem_cons_succ, Nat.zero_add, Nat.add_zero, Nat.reduceAdd, Nat.reduceMul, Nat.add_assoc, Nat.mul_one, Int.toNat_natCast, Int.reduceToNat, Int.toNat_zero, Nat.zero_mul]; exact rfl) ?_
  refine WS.po (tb := tb) rfl rfl rfl rfl rfl ?_
  refine WS.poP (tb := tb) rfl rfl rfl rfl (step_P (evP_index rfl rfl rfl rfl rfl rfl (by omega))) (by simp only [Nat.zero_add, Nat.add_zero, Nat.reduceAdd, Nat.reduceMul, Nat.add_assoc, Nat.mul_one]; exact rfl) ?_
  refine WS.po (tb := tb) rfl rfl rfl rfl (step_R rfl (evR_load rfl rfl rfl rfl (cellsB_get hLy))) ?_
  refine WS.po (tb := tb) rfl rfl rfl rfl rfl ?_
  refine WS.po (tb := tb) rfl rfl rfl rfl rfl ?_
  refine WS.pend rfl ?_
  refine WS.pseq rfl ?_
  refine WS.pseq rfl ?_
  refine WS.pregion rfl ?_
  refine WS.poP (tb := tb) rfl rfl rfl rfl rfl (by simp only [List.getElem_toArray, List.getElem_cons_zero, List.getElem_cons_succ, Nat.zero_add, Nat.add_zero, Nat.reduceAdd, Nat.reduceMul, Nat.add_assoc, Nat.mul_one, Int.toNat_natCast, Int.reduceToNat, Int.toNat_zero, Nat.zero_mul]; exact rfl) ?_
  refine WS.po (tb := tb) rfl rfl rfl rfl rfl ?_
  refine WS.pend rfl ?_
  refine WS.pblock rfl ?_
  refine WS.pseq rfl ?_
  refine WS.pregion rfl ?_
  refine WS.poDF (tb := tb) rfl rfl rfl rfl rfl (by omega) ?_
  refine WS.po (tb := tb) rfl rfl rfl rfl rfl ?_
  refine WS.pend rfl ?_
  refine WS.pcondF rfl rfl ?_
  refine WS.pseq rfl ?_
  refine WS.pregion rfl ?_
  refine WS.poDF (tb := tb) rfl rfl rfl rfl rfl (by omega) ?_
  refine WS.po (tb := tb) rfl rfl rfl rfl rfl ?_
  refine WS.pend rfl ?_
  refine WS.pcondF rfl rfl ?_
  refine WS.pseq rfl ?_
  refine WS.pregion rfl ?_
  refine WS.poDF (tb := tb) rfl rfl rfl rfl rfl (by omega) ?_
  refine WS.po (tb := tb) rfl rfl rfl rfl rfl ?_
  refine WS.pend rfl ?_
  refine WS.pcondF rfl rfl ?_
  refine WS.pseq rfl ?_
  refine WS.pregion rfl ?_
  refine WS.po (tb := tb) rfl rfl rfl rfl rfl ?_
  refine WS.po (tb := tb) rfl rfl rfl rfl rfl ?_
  refine WS.pcallM (tb := tb) [1,2] T rfl rfl rfl rfl rfl (by (try simp only [mapL, mapV, List.getD_cons_zero, List.getD_cons_succ]); exact rfl) (by simp [okL, okV, arM, hlen]) rfl (by simp [embP, okL, okV, mapL, mapV, mem_next, mem_get, mem_ro, mapL_cellsR, okL_cellsR, arM, hlen]) rfl ?_; rintro _ _ ⟨rfl, rfl⟩ -; simp only [plugL, setsL, newsL, isOwn, ownB, over, mapL, mapV, List.getD_cons_zero, List.getD_cons_succ, List.set_cons_zero, List.set_cons_succ, List.length_cons, List.length_nil, Nat.reduceAdd, Nat.reduceLT, Nat.zero_add, if_true, if_false, Nat.reduceSub, reduceIte, List.map_cons, List.map_nil, List.append_nil, List.cons_append, List.nil_append, mapL_cellsR, Nat.lt_irrefl, Nat.not_lt_zero, Nat.zero_lt_succ, Nat.lt_add_one, arM, hlen]
  refine WS.po (tb := tb) rfl rfl rfl rfl rfl ?_
  refine WS.po (tb := tb) rfl rfl rfl rfl rfl ?_
  refine WS.po (tb := tb) rfl rfl rfl rfl rfl ?_
  refine WS.po (tb := tb) rfl rfl rfl rfl rfl ?_; rw [new_mem]; simp only [List.cons_append, List.nil_append, vcells, mem_next, List.length_cons, List.length_nil, Nat.zero_add, Nat.reduceAdd, reps, List.append_nil, setL, List.set_cons_zero, List.set_cons_succ, Nat.zero_mul, Nat.reduceMul]
  refine WS.po0 (tb := tb) rfl rfl rfl rfl (step_H rfl rfl (evH_store rfl rfl rfl rfl rfl (Nat.zero_le _) rfl (by simp [vcells]) (Nat.le_of_ble_eq_true rfl))) ?_; rw [upd_mem _ rfl]; simp only [vcells, setL, List.set_cons_zero, List.set_cons_succ]
  refine WS.po (tb := tb) rfl rfl rfl rfl rfl ?_
  refine WS.pend rfl ?_
  refine WS.pseq rfl ?_
  refine WS.pdraw (tb := tb) (by kernel_rfl) rfl (by kernel_rfl) (by kernel_rfl) ?_
  refine WD.p (tb := tb) rfl rfl rfl rfl rfl ?_
  refine WD.p (tb := tb) rfl rfl rfl rfl rfl ?_
  refine WD.p (tb := tb) rfl rfl rfl rfl rfl ?_
  refine WD.pB (tb := tb) false rfl rfl rfl rfl rfl rfl ?_
  refine WD.p (tb := tb) rfl rfl rfl rfl rfl ?_
  refine WD.rA (tb := tb) rfl rfl rfl rfl rfl (by simp only [List.drop_zero, List.drop_succ_cons, List.take_succ_cons, List.take_zero, rwPl, rwAct, rwNd]; exact rfl) ?_
  refine WD.p (tb := tb) rfl rfl rfl rfl rfl ?_
  refine WD.p (tb := tb) rfl rfl rfl rfl rfl ?_
  refine WD.pP (tb := tb) rfl rfl rfl rfl (evP_index rfl rfl rfl rfl rfl rfl (by omega)) (by simp only [Nat.zero_add, Nat.add_zero, Nat.reduceAdd, Nat.reduceMul, Nat.add_assoc, Nat.mul_one]; exact rfl) ?_
  refine WD.rA (tb := tb) rfl rfl rfl rfl (evQ_R rfl (evR_loads rfl rfl rfl rfl rfl (by exact (cellsR_part0 (R := rwNd) hnd (by exact Nat.le_of_ble_eq_true rfl))) (by exact rfl))) (by simp only [List.drop_zero, List.drop_succ_cons, List.take_succ_cons, List.take_zero, rwPl, rwAct, rwNd]; exact rfl) ?_
  refine WD.pB (tb := tb) false rfl rfl rfl rfl (evP_neq rfl rfl rfl (by kernel_rfl) (by kernel_rfl)) (by rw [Node_eq]; exact nd_f (by omega)) ?_
  refine WD.p (tb := tb) rfl rfl rfl rfl rfl ?_
  refine WD.p (tb := tb) rfl rfl rfl rfl rfl ?_
  refine WD.p (tb := tb) rfl rfl rfl rfl rfl ?_
  refine WD.p (tb := tb) rfl rfl rfl rfl rfl ?_
  refine WD.pB (tb := tb) false rfl rfl rfl rfl rfl rfl ?_
  refine WD.p (tb := tb) rfl rfl rfl rfl rfl ?_
  refine WD.no rfl rfl rfl rfl ?_
  refine WD.no rfl rfl rfl rfl ?_
  refine WD.no rfl rfl rfl rfl ?_
  refine WD.no1 rfl rfl rfl rfl ?_
  refine WD.no rfl rfl rfl rfl ?_
  refine WD.no rfl rfl rfl rfl ?_
  refine WD.no rfl rfl rfl rfl ?_
  refine WD.p (tb := tb) rfl rfl rfl rfl rfl ?_
  refine WD.p (tb := tb) rfl rfl rfl rfl rfl ?_
  refine WD.fin rfl ?_
  refine WS.pcondF rfl rfl ?_
  refine WS.pskip rfl ?_
  refine WS.pseq rfl ?_
  refine WS.pregion rfl ?_
  refine WS.po (tb := tb) rfl rfl rfl rfl rfl ?_
  refine WS.po (tb := tb) rfl rfl rfl rfl rfl ?_
  refine WS.po (tb := tb) rfl rfl rfl rfl rfl ?_
  refine WS.pcallM (tb := tb) [1,2,3,4] W rfl rfl rfl rfl rfl (by (try simp only [mapL, mapV, List.getD_cons_zero, List.getD_cons_succ]); exact rfl) (by simp [okL, okV, arM, hlen]) rfl (by simp [embP, okL, okV, mapL, mapV, mem_next, mem_get, mem_ro, mapL_cellsR, okL_cellsR, arM, hlen]) rfl ?_; rintro _ _ ⟨rfl, rfl⟩ -; simp only [plugL, setsL, newsL, isOwn, ownB, over, mapL, mapV, List.getD_cons_zero, List.getD_cons_succ, List.set_cons_zero, List.set_cons_succ, List.length_cons, List.length_nil, Nat.reduceAdd, Nat.reduceLT, Nat.zero_add, if_true, if_false, Nat.reduceSub, reduceIte, List.map_cons, List.map_nil, List.append_nil, List.cons_append, List.nil_append, mapL_cellsR, Nat.lt_irrefl, Nat.not_lt_zero, Nat.zero_lt_succ, Nat.lt_add_one, arM, hlen]
  refine WS.poB (tb := tb) false rfl rfl rfl rfl rfl rfl ?_
  refine WS.pend rfl ?_
  refine WS.pcondF rfl rfl ?_
  refine WS.pskip rfl ?_
  refine WS.pregion rfl ?_
  refine WS.po (tb := tb) rfl rfl rfl rfl rfl ?_
  refine WS.poW (tb := tb) rfl rfl rfl rfl rfl (by simp only [lo]; omega) (by simp only [Am.hi]; omega) ?_
  refine WS.po (tb := tb) rfl rfl rfl rfl rfl ?_
  refine WS.pend rfl ?_
  refine WS.nil ?_
  all_goals exact ⟨_, H', by simp only; omega, (SeenBy.seen (v := [0,1,2,3,4,5]) ⟨rfl, rfl, (by simp [viewP, okL, okV, mapL, mapV, mem_get, mapL_cellsR, okL_cellsR, SSp, MMp, freeBlk, hlen, List.length_set]), (by first | exact rfl | exact own2_dist rfl rfl), (by simp only [slotsP, okV, okL, mapV, mapL, and_true, true_and, List.length_cons, List.length_nil, List.length_append, List.length_map, Nat.reduceAdd, Nat.reduceLT, SSp, MMp, freeBlk, hlen, List.length_set]; repeat' (first | exact rfl | refine ⟨?_, ?_⟩ | exact lk_m rfl (hmp _ rfl) | exact hok _ (Nat.le_of_ble_eq_true rfl) | exact lk_i rfl (by omega) | exact lk_sl rfl (by omega) (by omega) (by omega) | decide | omega))⟩)⟩

theorem bd_g1c (size : Nat) (l : List Act) (c i : Nat) (ps : List Pl) (fr lv : Int) (xs : List Int) (o : Nat) (nd : List Nd) (k : Nat) (op left h lba : Int) (q : Bool) (f0 : Nat) (r0 : List Nat) (H : Inv size l.length ⟨i, ps, fr, lv, (f0 :: r0), xs, o, q, nd⟩) (p : Pl) (hp : ps[k]? = some p) (hl' : p.live = true) (hop : op = 1) (hl : l.length ≤ 200) (h2 : size ≤ 60) (hx : l[i]? = some ⟨op, k, left, h, lba⟩) (hk : k ≤ 1000) :
    WS Try.prog (frameN Try.f4 2) 1 [.c (k1 (k1 (k2 (k1 (k2 (k2 (k2 (k2 (k2 (k2 (k2 (k2 (k2 (kb Try.f4))))))))))))))] (slt (SSp size (some (0,0)) l.length c ⟨i, ps, fr, lv, (f0 :: r0), xs, o, q, nd⟩)) (mem 0 (MMp l ⟨i, ps, fr, lv, (f0 :: r0), xs, o, q, nd⟩)) (PostP size l c ⟨i, ps, fr, lv, (f0 :: r0), xs, o, q, nd⟩) := by
  have hi : i < l.length := (List.getElem?_eq_some_iff.1 hx).1
  have hlen : ps.length = size + 1 := H.len
  have hnl : nd.length = size + 1 := H.nlen
  have hlv : lv = size - ((f0 :: r0) : List Nat).length := H.lv
  have hle : ((f0 :: r0) : List Nat).length ≤ size := free_le H
  have hllen : (lives ps).length = size + 1 := by simp [lives, hlen]
  have hL : k < size + 1 → (lives ps)[k]? = some (((lives ps)[k]?).getD false) := fun hk => by rw [List.getElem?_eq_getElem (by rw [hllen]; exact hk)]; rfl
  subst hop
  have hkl := (List.getElem?_eq_some_iff.1 hp).1
  obtain ⟨hk0, hno⟩ := (H.live k p hp).1 hl'
  have hLy : (lives ps)[k]? = some true := by rw [lives_get hp, hl']
  have hnd := H.nd k p hp hl'
  simp only [List.length_nil, List.length_cons] at hle
  have hxo := H.xs (by simp)
  simp only at hxo
  have hxl : o + (r0.length + 1) ≤ xs.length := by have := congrArg List.length hxo; simp [nums] at this; omega
  have hxt : (xs.drop o).take (r0.length + 1) = (f0 : Int) :: List.map (fun (k : Nat) => (k : Int)) r0 := by rw [hxo]; exact List.take_of_length_le (by simp [nums])
  have H' := inv_give H hi hp hl' (nums (k :: f0 :: r0)) 0 true rfl
  have W := whole_inv H' h2
  have T := give_yes ps k fr lv p hp hl' (by omega) (by simp at hlv; have := nod_lt H hp hl'; simp at this; omega) (by omega)
  have hst : setL (cellsR rwB (lives ps)) k [.b false] = cellsR rwB (lives (ps.set k ⟨false, fr, 0, 0, 0, 0, 0, 0⟩)) := (cellsB_set (by omega)).trans (by rw [lives_set])
  simp only [roBlk, List.length_nil, List.length_cons, nums, List.map_cons] at W
  rw [show r0.length + 1 + 1 = 1 + (r0.length + 1) by omega] at W

  simp only [SSp, MMp, freeBlk, hlen, List.length_cons, List.length_nil]
  refine WS.pseq rfl ?_
  refine WS.pseq rfl ?_
  refine WS.pregion rfl ?_
  refine WS.po (tb := tb) rfl rfl rfl rfl rfl ?_
  refine WS.po (tb := tb) rfl rfl rfl rfl rfl ?_
  refine WS.po (tb := tb) rfl rfl rfl rfl rfl ?_
  refine WS.poDT (tb := tb) rfl rfl rfl rfl rfl (by omega) ?_
  refine WS.pend rfl ?_
  refine WS.pcondT rfl rfl ?_
  refine WS.pskip rfl ?_
  refine WS.pseq rfl ?_
  refine WS.pblock rfl ?_
  refine WS.pseq rfl ?_
  refine WS.pregion rfl ?_
  refine WS.po (tb := tb) rfl rfl rfl rfl rfl ?_
  refine WS.po (tb := tb) rfl rfl rfl rfl rfl ?_
  refine WS.poP (tb := tb) rfl rfl rfl rfl (step_P (evP_index rfl rfl rfl rfl rfl rfl (by omega))) (by simp only [Nat.zero_add, Nat.add_zero, Nat.reduceAdd, Nat.reduceMul, Nat.add_assoc, Nat.mul_one]; exact rfl) ?_
  refine WS.poA (tb := tb) rfl rfl rfl rfl (step_R rfl (evR_loads rfl rfl rfl rfl rfl (by exact (cellsR_part0 (R := rwAct) hx (by exact Nat.le_of_ble_eq_true rfl))) (by exact rfl))) (by simp only [List.drop_zero, List.drop_succ_cons, List.take_succ_cons, List.take_zero, rwPl, rwAct, rwNd]; exact rfl) ?_
  refine WS.po (tb := tb) rfl rfl rfl rfl rfl ?_; rw [new_mem]; simp only [List.cons_append, List.nil_append, vcells, mem_next, List.length_cons, List.length_nil, Nat.zero_add, Nat.reduceAdd, reps, List.append_nil, setL, List.set_cons_zero, List.set_cons_succ, Nat.zero_mul, Nat.reduceMul]
  refine WS.po0 (tb := tb) rfl rfl rfl rfl (step_H rfl rfl (evH_store rfl rfl rfl rfl rfl (Nat.zero_le _) rfl (by simp [vcells]) (Nat.le_of_ble_eq_true rfl))) ?_; rw [upd_mem _ rfl]; simp only [vcells, setL, List.set_cons_zero, List.set_cons_succ]
  refine WS.pend rfl ?_
  refine WS.pseq rfl ?_
  refine WS.pseq rfl ?_
  refine WS.pregion rfl ?_
  refine WS.poP (tb := tb) rfl rfl rfl rfl rfl (by simp only [List.getElem_toArray, List.getElem_cons_zero, List.getElem_cons_succ, Nat.zero_add, Nat.add_zero, Nat.reduceAdd, Nat.reduceMul, Nat.add_assoc, Nat.mul_one, Int.toNat_natCast, Int.reduceToNat, Int.toNat_zero, Nat.zero_mul]; exact rfl) ?_
  refine WS.po (tb := tb) rfl rfl rfl rfl rfl ?_
  refine WS.poB (tb := tb) false rfl rfl rfl rfl rfl rfl ?_
  refine WS.po (tb := tb) rfl rfl rfl rfl rfl ?_
  refine WS.poP (tb := tb) rfl rfl rfl rfl rfl (by simp only [List.getElem_toArray, List.getElem_cons_zero, List.getElem_cons_succ, Nat.zero_add, Nat.add_zero, Nat.reduceAdd, Nat.reduceMul, Nat.add_assoc, Nat.mul_one, Int.toNat_natCast, Int.reduceToNat, Int.toNat_zero, Nat.zero_mul]; exact rfl) ?_
  refine WS.po (tb := tb) rfl rfl rfl rfl rfl ?_
  refine WS.poDF (tb := tb) rfl rfl rfl rfl rfl (by omega) ?_
  refine WS.po (tb := tb) rfl rfl rfl rfl rfl ?_
  refine WS.pend rfl ?_
  refine WS.pcondF rfl rfl ?_
  refine WS.pskip rfl ?_
  refine WS.pseq rfl ?_
  refine WS.pregion rfl ?_
  refine WS.poP (tb := tb) rfl rfl rfl rfl rfl (by simp only [List.getElem_toArray, List.getElem_cons_zero, List.getElem_cons_succ, Nat.zero_add, Nat.add_zero, Nat.reduceAdd, Nat.reduceMul, Nat.add_assoc, Nat.mul_one, Int.toNat_natCast, Int.reduceToNat, Int.toNat_zero, Nat.zero_mul]; exact rfl) ?_
  refine WS.po (tb := tb) rfl rfl rfl rfl rfl ?_
  refine WS.poW (tb := tb) rfl rfl rfl rfl rfl (by simp only [lo]; omega) (by simp only [Am.hi]; omega) ?_
  refine WS.po (tb := tb) rfl rfl rfl rfl rfl ?_
  refine WS.pend rfl ?_
  refine WS.pseq rfl ?_
  refine WS.pregion rfl ?_
  refine WS.poP (tb := tb) rfl rfl rfl rfl rfl (by simp only [List.getElem_toArray, List.getElem_cons_zero, List.getElem_cons_succ, Nat.zero_add, Nat.add_zero, Nat.reduceAdd, Nat.reduceMul, Nat.add_assoc, Nat.mul_one, Int.toNat_natCast, Int.reduceToNat, Int.toNat_zero, Nat.zero_mul]; exact rfl) ?_
  refine WS.po (tb := tb) rfl rfl rfl rfl rfl ?_
  refine WS.poDT (tb := tb) rfl rfl rfl rfl rfl (by omega) ?_
  refine WS.po (tb := tb) rfl rfl rfl rfl rfl ?_
  refine WS.poP (tb := tb) rfl rfl rfl rfl rfl (by simp only [List.getElem_toArray, List.getElem_cons_zero, List.getElem_cons_succ, Nat.zero_add, Nat.add_zero, Nat.reduceAdd, Nat.reduceMul, Nat.add_assoc, Nat.mul_one, Int.toNat_natCast, Int.reduceToNat, Int.toNat_zero, Nat.zero_mul]; exact rfl) ?_
  refine WS.po (tb := tb) rfl rfl rfl rfl rfl ?_
  refine WS.po (tb := tb) rfl rfl rfl rfl rfl ?_
  refine WS.poDT (tb := tb) rfl rfl rfl rfl rfl (by omega) ?_
  refine WS.po (tb := tb) rfl rfl rfl rfl rfl ?_
  refine WS.po (tb := tb) rfl rfl rfl rfl rfl ?_
  refine WS.po (tb := tb) rfl rfl rfl rfl rfl ?_
  refine WS.poP (tb := tb) rfl rfl rfl rfl rfl (by simp only [List.getElem_toArray, List.getElem_cons_zero, List.getElem_cons_succ, Nat.zero_add, Nat.add_zero, Nat.reduceAdd, Nat.reduceMul, Nat.add_assoc, Nat.mul_one, Int.toNat_natCast, Int.reduceToNat, Int.toNat_zero, Nat.zero_mul]; exact rfl) ?_
  refine WS.po (tb := tb) rfl rfl rfl rfl rfl ?_
  refine WS.poP (tb := tb) rfl rfl rfl rfl (step_P (evP_index rfl rfl rfl rfl rfl rfl (by omega))) (by simp only [Nat.zero_add, Nat.add_zero, Nat.reduceAdd, Nat.reduceMul, Nat.add_assoc, Nat.mul_one]; exact rfl) ?_
  refine WS.po (tb := tb) rfl rfl rfl rfl (step_R rfl (evR_load rfl rfl rfl rfl (cellsB_get hLy))) ?_
  refine WS.po (tb := tb) rfl rfl rfl rfl rfl ?_
  refine WS.po (tb := tb) rfl rfl rfl rfl rfl ?_
  refine WS.pend rfl ?_
  refine WS.pseq rfl ?_
  refine WS.pseq rfl ?_
  refine WS.pregion rfl ?_
  refine WS.poP (tb := tb) rfl rfl rfl rfl rfl (by simp only [List.getElem_toArray, List.getElem_cons_zero, List.getElem_cons_succ, Nat.zero_add, Nat.add_zero, Nat.reduceAdd, Nat.reduceMul, Nat.add_assoc, Nat.mul_one, Int.toNat_natCast, Int.reduceToNat, Int.toNat_zero, Nat.zero_mul]; exact rfl) ?_
  refine WS.po (tb := tb) rfl rfl rfl rfl rfl ?_
  refine WS.pend rfl ?_
  refine WS.pblock rfl ?_
  refine WS.pseq rfl ?_
  refine WS.pregion rfl ?_
  refine WS.poB (tb := tb) false rfl rfl rfl rfl rfl rfl ?_
  refine WS.po (tb := tb) rfl rfl rfl rfl rfl ?_
  refine WS.pend rfl ?_
  refine WS.pcondF rfl rfl ?_
  refine WS.pseq rfl ?_
  refine WS.pregion rfl ?_
  refine WS.poB (tb := tb) true rfl rfl rfl rfl rfl rfl ?_
  refine WS.po (tb := tb) rfl rfl rfl rfl rfl ?_
  refine WS.pend rfl ?_
  refine WS.pcondT rfl rfl ?_
  refine WS.pseq rfl ?_
  refine WS.pregion rfl ?_
  refine WS.po (tb := tb) rfl rfl rfl rfl rfl ?_
  refine WS.po (tb := tb) rfl rfl rfl rfl rfl ?_
  refine WS.pcallM (tb := tb) [1,2] T rfl rfl rfl rfl rfl (by (try simp only [mapL, mapV, List.getD_cons_zero, List.getD_cons_succ]); exact rfl) (by simp [okL, okV, arM, hlen, hxt, cellsI_cons, nums, List.map_cons]) rfl (by simp [embP, okL, okV, mapL, mapV, mem_next, mem_get, mem_ro, mapL_cellsR, okL_cellsR, arM, hlen, hxt, cellsI_cons, nums, List.map_cons]) rfl ?_; rintro _ _ ⟨rfl, rfl⟩ -; simp only [plugL, setsL, newsL, isOwn, ownB, over, mapL, mapV, List.getD_cons_zero, List.getD_cons_succ, List.set_cons_zero, List.set_cons_succ, List.length_cons, List.length_nil, Nat.reduceAdd, Nat.reduceLT, Nat.zero_add, if_true, if_false, Nat.reduceSub, reduceIte, List.map_cons, List.map_nil, List.append_nil, List.cons_append, List.nil_append, mapL_cellsR, Nat.lt_irrefl, Nat.not_lt_zero, Nat.zero_lt_succ, Nat.lt_add_one, arM, hlen, hxt, cellsI_cons, nums, List.map_cons]
  refine WS.po (tb := tb) rfl rfl rfl rfl rfl ?_
  refine WS.pend rfl ?_
  refine WS.pseq rfl ?_
  refine WS.pseq rfl ?_
  refine WS.pregion rfl ?_
  refine WS.po (tb := tb) rfl rfl rfl rfl rfl ?_
  refine WS.poB (tb := tb) false rfl rfl rfl rfl rfl rfl ?_
  refine WS.pend rfl ?_
  refine WS.pcondF rfl rfl ?_
  refine WS.pskip rfl ?_
  refine WS.pseq rfl ?_
  refine WS.pseq rfl ?_
  refine WS.pregion rfl ?_
  refine WS.po (tb := tb) rfl rfl rfl rfl rfl ?_
  refine WS.poB (tb := tb) false rfl rfl rfl rfl rfl rfl ?_
  refine WS.pend rfl ?_
  refine WS.pcondF rfl rfl ?_
  refine WS.pskip rfl ?_
  refine WS.pseq rfl ?_
  refine WS.pregion rfl ?_
  refine WS.po (tb := tb) rfl rfl rfl rfl rfl ?_
  refine WS.po (tb := tb) rfl rfl rfl rfl rfl ?_
  refine WS.poP (tb := tb) rfl rfl rfl rfl (step_P (evP_index rfl rfl rfl rfl rfl rfl (by omega))) (by simp only [Nat.zero_add, Nat.add_zero, Nat.reduceAdd, Nat.reduceMul, Nat.add_assoc, Nat.mul_one]; exact rfl) ?_
  refine WS.po0 (tb := tb) rfl rfl rfl rfl (step_H rfl rfl (evH_store rfl rfl rfl rfl rfl (Nat.zero_le _) rfl (by simp [vcells]) (by simp only [Pl_len, Act_len, Nd_len, vcells, List.length_cons, List.length_nil, cellsI_len, cellsB_len, List.length_set, List.length_replicate, List.length_append, List.length_map, List.length_take, List.length_drop, hllen, hnl]; omega))) ?_; rw [upd_mem _ rfl]; simp only [vcells, List.set_cons_zero, List.set_cons_succ, hst, arM, hlen, hxt, cellsI_cons, nums, List.map_cons]; (try simp only [setL, List.set_cons_zero, List.set_cons_succ])
  refine WS.pend rfl ?_
  refine WS.pregion rfl ?_
  refine WS.po (tb := tb) rfl rfl rfl rfl rfl ?_
  refine WS.po (tb := tb) rfl rfl rfl rfl rfl ?_; rw [new_mem]; simp only [List.cons_append, List.nil_append, vcells, mem_next, List.length_cons, List.length_nil, Nat.zero_add, Nat.reduceAdd, reps, List.append_nil, setL, List.set_cons_zero, List.set_cons_succ, Nat.zero_mul, Nat.reduceMul]
  refine WS.po (tb := tb) rfl rfl rfl rfl rfl ?_
  refine WS.po (tb := tb) rfl rfl rfl rfl (step_H rfl rfl (evH_append_full rfl rfl rfl rfl rfl rfl rfl rfl rfl (by omega) (by omega) (by omega) rfl (cellsAt_rows (R := rwI .u32) (k := o) rfl rfl (Nat.mul_one _).symm (by omega)) (by first | exact rfl | (simp only [Pl_len, Act_len, Nd_len, vcells, List.length_cons, List.length_nil, cellsI_len, cellsB_len, List.length_set, List.length_replicate, List.length_append, List.length_map, List.length_take, List.length_drop, hllen, hnl]; omega) | omega) (by first | exact rfl | (simp only [Pl_len, Act_len, Nd_len, vcells, List.length_cons, List.length_nil, cellsI_len, cellsB_len, List.length_set, List.length_replicate, List.length_append, List.length_map, List.length_take, List.length_drop, hllen, hnl]; omega) | omega) (by omega))) ?_; (try rw [upd_mem _ rfl]); (try rw [new_mem]); (try simp only [List.set_cons_zero, List.set_cons_succ, List.cons_append, List.nil_append, mem_next, List.length_cons, List.length_nil, Nat.zero_add, Nat.reduceAdd, List.drop_zero, vcells, cellsI_app1, cellsB_app1, cellsI_cons, repsI, repsB, Pl_app1, Pl_reps, Act_app1, Act_reps, Nd_app1, Nd_reps, hst, arM, hlen, hxt, cellsI_cons, nums, List.map_cons])
  refine WS.po (tb := tb) rfl rfl rfl rfl rfl ?_
  refine WS.pend rfl ?_
  refine WS.pseq rfl ?_
  refine WS.pregion rfl ?_
  refine WS.po (tb := tb) rfl rfl rfl rfl rfl ?_
  refine WS.po (tb := tb) rfl rfl rfl rfl rfl ?_
  refine WS.po (tb := tb) rfl rfl rfl rfl rfl ?_
  refine WS.pcallM (tb := tb) [1,2,8,4] W rfl rfl rfl rfl rfl (by (try simp only [mapL, mapV, List.getD_cons_zero, List.getD_cons_succ]); exact rfl) (by simp [okL, okV, arM, hlen, hxt, cellsI_cons, nums, List.map_cons]) rfl (by simp [embP, okL, okV, mapL, mapV, mem_next, mem_get, mem_ro, mapL_cellsR, okL_cellsR, arM, hlen, hxt, cellsI_cons, nums, List.map_cons]) rfl ?_; rintro _ _ ⟨rfl, rfl⟩ -; simp only [plugL, setsL, newsL, isOwn, ownB, over, mapL, mapV, List.getD_cons_zero, List.getD_cons_succ, List.set_cons_zero, List.set_cons_succ, List.length_cons, List.length_nil, Nat.reduceAdd, Nat.reduceLT, Nat.zero_add, if_true, if_false, Nat.reduceSub, reduceIte, List.map_cons, List.map_nil, List.append_nil, List.cons_append, List.nil_append, mapL_cellsR, Nat.lt_irrefl, Nat.not_lt_zero, Nat.zero_lt_succ, Nat.lt_add_one, arM, hlen, hxt, cellsI_cons, nums, List.map_cons]
  refine WS.poB (tb := tb) false rfl rfl rfl rfl rfl rfl ?_
  refine WS.pend rfl ?_
  refine WS.pcondF rfl rfl ?_
  refine WS.pskip rfl ?_
  refine WS.pregion rfl ?_
  refine WS.po (tb := tb) rfl rfl rfl rfl rfl ?_
  refine WS.poW (tb := tb) rfl rfl rfl rfl rfl (by simp only [lo]; omega) (by simp only [Am.hi]; omega) ?_
  refine WS.po (tb := tb) rfl rfl rfl rfl rfl ?_
  refine WS.pend rfl ?_
  refine WS.nil ?_
  all_goals exact ⟨_, H', by simp only; omega, (SeenBy.seen (v := [0,1,2,8,4,5]) ⟨rfl, rfl, (by simp [viewP, okL, okV, mapL, mapV, mem_get, mapL_cellsR, okL_cellsR, SSp, MMp, freeBlk, hlen, List.length_set, nums, List.map_cons, cellsI_cons]), (by first | exact rfl | exact own2_dist rfl rfl), (by simp only [slotsP, okV, okL, mapV, mapL, and_true, true_and, List.length_cons, List.length_nil, List.length_append, List.length_map, Nat.reduceAdd, Nat.reduceLT, SSp, MMp, freeBlk, hlen, List.length_set, nums, List.map_cons, cellsI_cons]; repeat' (first | exact rfl | refine ⟨?_, ?_⟩ | exact lk_m rfl (hmp _ rfl) | exact hok _ (Nat.le_of_ble_eq_true rfl) | exact lk_i rfl (by omega) | exact lk_sl rfl (by omega) (by omega) (by omega) | decide | omega))⟩)⟩

theorem bd_p1c (size : Nat) (l : List Act) (c i : Nat) (ps : List Pl) (fr lv : Int) (xs : List Int) (o : Nat) (nd : List Nd) (k : Nat) (op left h lba : Int) (q : Bool) (f0 : Nat) (r0 : List Nat) (H : Inv size l.length ⟨i, ps, fr, lv, (f0 :: r0), xs, o, q, nd⟩) (p : Pl) (hp : ps[k]? = some p) (hl' : p.live = true) (hop : op = 2) (hl : l.length ≤ 200) (h2 : size ≤ 60) (hx : l[i]? = some ⟨op, k, left, h, lba⟩) (hk : k ≤ 1000) :
    WS Try.prog (frameN Try.f4 2) 1 [.c (k1 (k1 (k2 (k1 (k2 (k2 (k2 (k2 (k2 (k2 (k2 (k2 (k2 (kb Try.f4))))))))))))))] (slt (SSp size (some (0,0)) l.length c ⟨i, ps, fr, lv, (f0 :: r0), xs, o, q, nd⟩)) (mem 0 (MMp l ⟨i, ps, fr, lv, (f0 :: r0), xs, o, q, nd⟩)) (PostP size l c ⟨i, ps, fr, lv, (f0 :: r0), xs, o, q, nd⟩) := by
  have hi : i < l.length := (List.getElem?_eq_some_iff.1 hx).1
  have hlen : ps.length = size + 1 := H.len
  have hnl : nd.length = size + 1 := H.nlen
  have hlv : lv = size - ((f0 :: r0) : List Nat).length := H.lv
  have hle : ((f0 :: r0) : List Nat).length ≤ size := free_le H
  have hllen : (lives ps).length = size + 1 := by simp [lives, hlen]
  have hL : k < size + 1 → (lives ps)[k]? = some (((lives ps)[k]?).getD false) := fun hk => by rw [List.getElem?_eq_getElem (by rw [hllen]; exact hk)]; rfl
  subst hop
  have hkl := (List.getElem?_eq_some_iff.1 hp).1
  obtain ⟨hk0, hno⟩ := (H.live k p hp).1 hl'
  have hLy : (lives ps)[k]? = some true := by rw [lives_get hp, hl']
  have hnd := H.nd k p hp hl'
  simp only [List.length_nil, List.length_cons] at hle
  have H' := inv_put H hi hp hl' (wr .u32 left) (wr .u32 lba) h lba left h
  have W := whole_inv H' h2
  have T := put_yes ps k fr lv p (wr .u32 left) (wr .u32 lba) h lba left h hp hl' (by omega)
  have hst : cellsR rwB (lives ps) = cellsR rwB (lives (ps.set k ⟨true, p.next, wr .u32 left, wr .u32 lba, h, lba, left, h⟩)) := by
    rw [lives_set, ← hl']; congr 1
    exact (List.set_getElem?_self (lives_get hp)).symm
  have hst2 := hst.symm
  rw [← hst] at W
  simp only [roBlk, List.length_nil, List.length_cons] at W

  simp only [SSp, MMp, freeBlk, hlen, List.length_cons, List.length_nil]
  refine WS.pseq rfl ?_
  refine WS.pseq rfl ?_
  refine WS.pregion rfl ?_
  refine WS.po (tb := tb) rfl rfl rfl rfl rfl ?_
  refine WS.po (tb := tb) rfl rfl rfl rfl rfl ?_
  refine WS.po (tb := tb) rfl rfl rfl rfl rfl ?_
  refine WS.poDT (tb := tb) rfl rfl rfl rfl rfl (by omega) ?_
  refine WS.pend rfl ?_
  refine WS.pcondT rfl rfl ?_
  refine WS.pskip rfl ?_
  refine WS.pseq rfl ?_
  refine WS.pblock rfl ?_
  refine WS.pseq rfl ?_
  refine WS.pregion rfl ?_
  refine WS.po (tb := tb) rfl rfl rfl rfl rfl ?_
  refine WS.po (tb := tb) rfl rfl rfl rfl rfl ?_
  refine WS.poP (tb := tb) rfl rfl rfl rfl (step_P (evP_index rfl rfl rfl rfl rfl rfl (by omega))) (by simp only [Nat.zero_add, Nat.add_zero, Nat.reduceAdd, Nat.reduceMul, Nat.add_assoc, Nat.mul_one]; exact rfl) ?_
  refine WS.poA (tb := tb) rfl rfl rfl rfl (step_R rfl (evR_loads rfl rfl rfl rfl rfl (by exact (cellsR_part0 (R := rwAct) hx (by exact Nat.le_of_ble_eq_true rfl))) (by exact rfl))) (by simp only [List.drop_zero, List.drop_succ_cons, List.take_succ_cons, List.take_zero, rwPl, rwAct, rwNd]; exact rfl) ?_
  refine WS.po (tb := tb) rfl rfl rfl rfl rfl ?_; rw [new_mem]; simp only [List.cons_append, List.nil_append, vcells, mem_next, List.length_cons, List.length_nil, Nat.zero_add, Nat.reduceAdd, reps, List.append_nil, setL, List.set_cons_zero, List.set_cons_succ, Nat.zero_mul, Nat.reduceMul]
  refine WS.po0 (tb := tb) rfl rfl rfl rfl (step_H rfl rfl (evH_store rfl rfl rfl rfl rfl (Nat.zero_le _) rfl (by simp [vcells]) (Nat.le_of_ble_eq_true rfl))) ?_; rw [upd_mem _ rfl]; simp only [vcells, setL, List.set_cons_zero, List.set_cons_succ]
  refine WS.pend rfl ?_
  refine WS.pseq rfl ?_
  refine WS.pseq rfl ?_
  refine WS.pregion rfl ?_
  refine WS.poP (tb := tb) rfl rfl rfl rfl rfl (by simp only [List.getElem_toArray, List.getElem_cons_zero, List.getElem_cons_succ, Nat.zero_add, Nat.add_zero, Nat.reduceAdd, Nat.reduceMul, Nat.add_assoc, Nat.mul_one, Int.toNat_natCast, Int.reduceToNat, Int.toNat_zero, Nat.zero_mul]; exact rfl) ?_
  refine WS.po (tb := tb) rfl rfl rfl rfl rfl ?_
  refine WS.poB (tb := tb) false rfl rfl rfl rfl rfl rfl ?_
  refine WS.po (tb := tb) rfl rfl rfl rfl rfl ?_
  refine WS.poP (tb := tb) rfl rfl rfl rfl rfl (by simp only [List.getElem_toArray, List.getElem_cons_zero, List.getElem_cons_succ, Nat.zero_add, Nat.add_zero, Nat.reduceAdd, Nat.reduceMul, Nat.add_assoc, Nat.mul_one, Int.toNat_natCast, Int.reduceToNat, Int.toNat_zero, Nat.zero_mul]; exact rfl) ?_
  refine WS.po (tb := tb) rfl rfl rfl rfl rfl ?_
  refine WS.poDF (tb := tb) rfl rfl rfl rfl rfl (by omega) ?_
  refine WS.po (tb := tb) rfl rfl rfl rfl rfl ?_
  refine WS.pend rfl ?_
  refine WS.pcondF rfl rfl ?_
  refine WS.pskip rfl ?_
  refine WS.pseq rfl ?_
  refine WS.pregion rfl ?_
  refine WS.poP (tb := tb) rfl rfl rfl rfl rfl (by simp only [List.getElem_toArray, List.getElem_cons_zero, List.getElem_cons_succ, Nat.zero_add, Nat.add_zero, Nat.reduceAdd, Nat.reduceMul, Nat.add_assoc, Nat.mul_one, Int.toNat_natCast, Int.reduceToNat, Int.toNat_zero, Nat.zero_mul]; exact rfl) ?_
  refine WS.po (tb := tb) rfl rfl rfl rfl rfl ?_
  refine WS.poW (tb := tb) rfl rfl rfl rfl rfl (by simp only [lo]; omega) (by simp only [Am.hi]; omega) ?_
  refine WS.po (tb := tb) rfl rfl rfl rfl rfl ?_
  refine WS.pend rfl ?_
  refine WS.pseq rfl ?_
  refine WS.pregion rfl ?_
  refine WS.poP (tb := tb) rfl rfl rfl rfl rfl (by simp only [List.getElem_toArray, List.getElem_cons_zero, List.getElem_cons_succ, Nat.zero_add, Nat.add_zero, Nat.reduceAdd, Nat.reduceMul, Nat.add_assoc, Nat.mul_one, Int.toNat_natCast, Int.reduceToNat, Int.toNat_zero, Nat.zero_mul]; exact rfl) ?_
  refine WS.po (tb := tb) rfl rfl rfl rfl rfl ?_
  refine WS.poDT (tb := tb) rfl rfl rfl rfl rfl (by omega) ?_
  refine WS.po (tb := tb) rfl rfl rfl rfl rfl ?_
  refine WS.poP (tb := tb) rfl rfl rfl rfl rfl (by simp only [List.getElem_toArray, List.getElem_cons_zero, List.getElem_cons_succ, Nat.zero_add, Nat.add_zero, Nat.reduceAdd, Nat.reduceMul, Nat.add_assoc, Nat.mul_one, Int.toNat_natCast, Int.reduceToNat, Int.toNat_zero, Nat.zero_mul]; exact rfl) ?_
  refine WS.po (tb := tb) rfl rfl rfl rfl rfl ?_
  refine WS.po (tb := tb) rfl rfl rfl rfl rfl ?_
  refine WS.poDT (tb := tb) rfl rfl rfl rfl rfl (by omega) ?_
  refine WS.po (tb := tb) rfl rfl rfl rfl rfl ?_
  refine WS.po (tb := tb) rfl rfl rfl rfl rfl ?_
  refine WS.po (tb := tb) rfl rfl rfl rfl rfl ?_
  refine WS.poP (tb := tb) rfl rfl rfl rfl rfl (by simp only [List.getElem_toArray, List.getElem_cons_zero, List.getElem_cons_succ, Nat.zero_add, Nat.add_zero, Nat.reduceAdd, Nat.reduceMul, Nat.add_assoc, Nat.mul_one, Int.toNat_natCast, Int.reduceToNat, Int.toNat_zero, Nat.zero_mul]; exact rfl) ?_
  refine WS.po (tb := tb) rfl rfl rfl rfl rfl ?_
  refine WS.poP (tb := tb) rfl rfl rfl rfl (step_P (evP_index rfl rfl rfl rfl rfl rfl (by omega))) (by simp only [Nat.zero_add, Nat.add_zero, Nat.reduceAdd, Nat.reduceMul, Nat.add_assoc, Nat.mul_one]; exact rfl) ?_
  refine WS.po (tb := tb) rfl rfl rfl rfl (step_R rfl (evR_load rfl rfl rfl rfl (cellsB_get hLy))) ?_
  refine WS.po (tb := tb) rfl rfl rfl rfl rfl ?_
  refine WS.po (tb := tb) rfl rfl rfl rfl rfl ?_
  refine WS.pend rfl ?_
  refine WS.pseq rfl ?_
  refine WS.pseq rfl ?_
  refine WS.pregion rfl ?_
  refine WS.poP (tb := tb) rfl rfl rfl rfl rfl (by simp only [List.getElem_toArray, List.getElem_cons_zero, List.getElem_cons_succ, Nat.zero_add, Nat.add_zero, Nat.reduceAdd, Nat.reduceMul, Nat.add_assoc, Nat.mul_one, Int.toNat_natCast, Int.reduceToNat, Int.toNat_zero, Nat.zero_mul]; exact rfl) ?_
  refine WS.po (tb := tb) rfl rfl rfl rfl rfl ?_
  refine WS.pend rfl ?_
  refine WS.pblock rfl ?_
  refine WS.pseq rfl ?_
  refine WS.pregion rfl ?_
  refine WS.poB (tb := tb) false rfl rfl rfl rfl rfl rfl ?_
  refine WS.po (tb := tb) rfl rfl rfl rfl rfl ?_
  refine WS.pend rfl ?_
  refine WS.pcondF rfl rfl ?_
  refine WS.pseq rfl ?_
  refine WS.pregion rfl ?_
  refine WS.poB (tb := tb) false rfl rfl rfl rfl rfl rfl ?_
  refine WS.po (tb := tb) rfl rfl rfl rfl rfl ?_
  refine WS.pend rfl ?_
  refine WS.pcondF rfl rfl ?_
  refine WS.pseq rfl ?_
  refine WS.pregion rfl ?_
  refine WS.poB (tb := tb) true rfl rfl rfl rfl rfl rfl ?_
  refine WS.po (tb := tb) rfl rfl rfl rfl rfl ?_
  refine WS.pend rfl ?_
  refine WS.pcondT rfl rfl ?_
  refine WS.pseq rfl ?_
  refine WS.pregion rfl ?_
  refine WS.poP (tb := tb) rfl rfl rfl rfl rfl (by simp only [List.getElem_toArray, List.getElem_cons_zero, List.getElem_cons_succ, Nat.zero_add, Nat.add_zero, Nat.reduceAdd, Nat.reduceMul, Nat.add_assoc, Nat.mul_one, Int.toNat_natCast, Int.reduceToNat, Int.toNat_zero, Nat.zero_mul]; exact rfl) ?_
  refine WS.po (tb := tb) rfl rfl rfl rfl rfl ?_
  refine WS.po (tb := tb) rfl rfl rfl rfl rfl ?_
  refine WS.poP (tb := tb) rfl rfl rfl rfl rfl (by simp only [List.getElem_toArray, List.getElem_cons_zero, List.getElem_cons_succ, Nat.zero_add, Nat.add_zero, Nat.reduceAdd, Nat.reduceMul, Nat.add_assoc, Nat.mul_one, Int.toNat_natCast, Int.reduceToNat, Int.toNat_zero, Nat.zero_mul]; exact rfl) ?_
  refine WS.po (tb := tb) rfl rfl rfl rfl rfl ?_
  refine WS.po (tb := tb) rfl rfl rfl rfl rfl ?_
  refine WS.poP (tb := tb) rfl rfl rfl rfl rfl (by simp only [List.getElem_toArray, List.getElem_cons_zero, List.getElem_cons_succ, Nat.zero_add, Nat.add_zero, Nat.reduceAdd, Nat.reduceMul, Nat.add_assoc, Nat.mul_one, Int.toNat_natCast, Int.reduceToNat, Int.toNat_zero, Nat.zero_mul]; exact rfl) ?_
  refine WS.po (tb := tb) rfl rfl rfl rfl rfl ?_
  refine WS.poP (tb := tb) rfl rfl rfl rfl rfl (by simp only [List.getElem_toArray, List.getElem_cons_zero, List.getElem_cons_succ, Nat.zero_add, Nat.add_zero, Nat.reduceAdd, Nat.reduceMul, Nat.add_assoc, Nat.mul_one, Int.toNat_natCast, Int.reduceToNat, Int.toNat_zero, Nat.zero_mul]; exact rfl) ?_
  refine WS.po (tb := tb) rfl rfl rfl rfl rfl ?_
  refine WS.poP (tb := tb) rfl rfl rfl rfl rfl (by simp only [List.getElem_toArray, List.getElem_cons_zero, List.getElem_cons_succ, Nat.zero_add, Nat.add_zero, Nat.reduceAdd, Nat.reduceMul, Nat.add_assoc, Nat.mul_one, Int.toNat_natCast, Int.reduceToNat, Int.toNat_zero, Nat.zero_mul]; exact rfl) ?_
  refine WS.po (tb := tb) rfl rfl rfl rfl rfl ?_
  refine WS.poP (tb := tb) rfl rfl rfl rfl rfl (by simp only [List.getElem_toArray, List.getElem_cons_zero, List.getElem_cons_succ, Nat.zero_add, Nat.add_zero, Nat.reduceAdd, Nat.reduceMul, Nat.add_assoc, Nat.mul_one, Int.toNat_natCast, Int.reduceToNat, Int.toNat_zero, Nat.zero_mul]; exact rfl) ?_
  refine WS.po (tb := tb) rfl rfl rfl rfl rfl ?_
  refine WS.poA (tb := tb) rfl rfl rfl rfl rfl (by simp only [vcells, setL, List.set_cons_zero, List.set_cons_succ, List.getElem_toArray, List.getElem_cons_zero, List.getElem_cons_succ, Nat.zero_add, Nat.add_zero, Nat.reduceAdd, Nat.reduceMul, Nat.add_assoc, Nat.mul_one, Int.toNat_natCast, Int.reduceToNat, Int.toNat_zero, Nat.zero_mul]; exact rfl) ?_
  refine WS.poA (tb := tb) rfl rfl rfl rfl rfl (by simp only [vcells, setL, List.set_cons_zero, List.set_cons_succ, List.getElem_toArray, List.getElem_cons_zero, List.getElem_cons_succ, Nat.zero_add, Nat.add_zero, Nat.reduceAdd, Nat.reduceMul, Nat.add_assoc, Nat.mul_one, Int.toNat_natCast, Int.reduceToNat, Int.toNat_zero, Nat.zero_mul]; exact rfl) ?_
  refine WS.po (tb := tb) rfl rfl rfl rfl rfl ?_; rw [new_mem]; simp only [List.cons_append, List.nil_append, vcells, mem_next, List.length_cons, List.length_nil, Nat.zero_add, Nat.reduceAdd, reps, List.append_nil, setL, List.set_cons_zero, List.set_cons_succ, Nat.zero_mul, Nat.reduceMul]
  refine WS.po0 (tb := tb) rfl rfl rfl rfl (step_H rfl rfl (evH_store rfl rfl rfl rfl rfl (Nat.zero_le _) rfl (by simp [vcells]) (Nat.le_of_ble_eq_true rfl))) ?_; rw [upd_mem _ rfl]; simp only [vcells, setL, List.set_cons_zero, List.set_cons_succ]
  refine WS.pend rfl ?_
  refine WS.pseq rfl ?_
  refine WS.pseq rfl ?_
  refine WS.pregion rfl ?_
  refine WS.po (tb := tb) rfl rfl rfl rfl rfl ?_
  refine WS.po (tb := tb) rfl rfl rfl rfl rfl ?_
  refine WS.poA (tb := tb) rfl rfl rfl rfl rfl (by simp only [List.drop_zero, List.drop_succ_cons, List.take_succ_cons, List.take_zero, rwPl, rwAct, rwNd]; exact rfl) ?_
  refine WS.pcallM (tb := tb) [1,2] T rfl rfl rfl rfl rfl (by (try simp only [mapL, mapV, List.getD_cons_zero, List.getD_cons_succ]); exact rfl) (by simp [okL, okV, arM, hlen]) rfl (by simp [embP, okL, okV, mapL, mapV, mem_next, mem_get, mem_ro, mapL_cellsR, okL_cellsR, arM, hlen]) rfl ?_; rintro _ _ ⟨rfl, rfl⟩ -; simp only [plugL, setsL, newsL, isOwn, ownB, over, mapL, mapV, List.getD_cons_zero, List.getD_cons_succ, List.set_cons_zero, List.set_cons_succ, List.length_cons, List.length_nil, Nat.reduceAdd, Nat.reduceLT, Nat.zero_add, if_true, if_false, Nat.reduceSub, reduceIte, List.map_cons, List.map_nil, List.append_nil, List.cons_append, List.nil_append, mapL_cellsR, Nat.lt_irrefl, Nat.not_lt_zero, Nat.zero_lt_succ, Nat.lt_add_one, arM, hlen]
  refine WS.poB (tb := tb) true rfl rfl rfl rfl rfl rfl ?_
  refine WS.po (tb := tb) rfl rfl rfl rfl rfl ?_
  refine WS.poB (tb := tb) false rfl rfl rfl rfl rfl rfl ?_
  refine WS.pend rfl ?_
  refine WS.pcondF rfl rfl ?_
  refine WS.pskip rfl ?_
  refine WS.pseq rfl ?_
  refine WS.pregion rfl ?_
  refine WS.po (tb := tb) rfl rfl rfl rfl rfl ?_
  refine WS.pend rfl ?_
  refine WS.pcondT rfl rfl ?_
  refine WS.pregion rfl ?_
  refine WS.po (tb := tb) rfl rfl rfl rfl rfl ?_
  refine WS.po (tb := tb) rfl rfl rfl rfl rfl ?_
  refine WS.poA (tb := tb) rfl rfl rfl rfl rfl (by simp only [List.drop_zero, List.drop_succ_cons, List.take_succ_cons, List.take_zero, rwPl, rwAct, rwNd]; exact rfl) ?_
  refine WS.poP (tb := tb) rfl rfl rfl rfl (step_P (evP_index rfl rfl rfl rfl rfl rfl (by omega))) (by simp only [Nat.zero_add, Nat.add_zero, Nat.reduceAdd, Nat.reduceMul, Nat.add_assoc, Nat.mul_one]; exact rfl) ?_
  refine WS.po0 (tb := tb) rfl rfl rfl rfl (step_H rfl rfl (evH_store rfl rfl rfl rfl rfl (Nat.zero_le _) rfl (by simp [vcells]) (by simp only [Pl_len, Act_len, Nd_len, vcells, List.length_cons, List.length_nil, cellsI_len, cellsB_len, List.length_set, List.length_replicate, List.length_append, List.length_map, List.length_take, List.length_drop, hllen, hnl]; omega))) ?_; rw [upd_mem _ rfl]; simp only [vcells, List.set_cons_zero, List.set_cons_succ, (Nd_set hnd), arM, hlen]; (try simp only [setL, List.set_cons_zero, List.set_cons_succ])
  refine WS.pend rfl ?_
  refine WS.pseq rfl ?_
  refine WS.pregion rfl ?_
  refine WS.po (tb := tb) rfl rfl rfl rfl rfl ?_
  refine WS.po (tb := tb) rfl rfl rfl rfl rfl ?_
  refine WS.po (tb := tb) rfl rfl rfl rfl rfl ?_
  refine WS.pcallM (tb := tb) [1,2,3,4] W rfl rfl rfl rfl rfl (by (try simp only [mapL, mapV, List.getD_cons_zero, List.getD_cons_succ]); exact rfl) (by simp [okL, okV, arM, hlen]) rfl (by simp [embP, okL, okV, mapL, mapV, mem_next, mem_get, mem_ro, mapL_cellsR, okL_cellsR, arM, hlen]) rfl ?_; rintro _ _ ⟨rfl, rfl⟩ -; simp only [plugL, setsL, newsL, isOwn, ownB, over, mapL, mapV, List.getD_cons_zero, List.getD_cons_succ, List.set_cons_zero, List.set_cons_succ, List.length_cons, List.length_nil, Nat.reduceAdd, Nat.reduceLT, Nat.zero_add, if_true, if_false, Nat.reduceSub, reduceIte, List.map_cons, List.map_nil, List.append_nil, List.cons_append, List.nil_append, mapL_cellsR, Nat.lt_irrefl, Nat.not_lt_zero, Nat.zero_lt_succ, Nat.lt_add_one, arM, hlen]
  refine WS.poB (tb := tb) false rfl rfl rfl rfl rfl rfl ?_
  refine WS.pend rfl ?_
  refine WS.pcondF rfl rfl ?_
  refine WS.pskip rfl ?_
  refine WS.pregion rfl ?_
  refine WS.po (tb := tb) rfl rfl rfl rfl rfl ?_
  refine WS.poW (tb := tb) rfl rfl rfl rfl rfl (by simp only [lo]; omega) (by simp only [Am.hi]; omega) ?_
  refine WS.po (tb := tb) rfl rfl rfl rfl rfl ?_
  refine WS.pend rfl ?_
  refine WS.nil ?_
  all_goals exact ⟨_, H', by simp only; omega, (SeenBy.seen (v := [0,1,2,3,4,5]) ⟨rfl, rfl, (by simp [viewP, okL, okV, mapL, mapV, mem_get, mapL_cellsR, okL_cellsR, SSp, MMp, freeBlk, hlen, List.length_set, hst2]), (by first | exact rfl | exact own2_dist rfl rfl), (by simp only [slotsP, okV, okL, mapV, mapL, and_true, true_and, List.length_cons, List.length_nil, List.length_append, List.length_map, Nat.reduceAdd, Nat.reduceLT, SSp, MMp, freeBlk, hlen, List.length_set, hst2]; repeat' (first | exact rfl | refine ⟨?_, ?_⟩ | exact lk_m rfl (hmp _ rfl) | exact hok _ (Nat.le_of_ble_eq_true rfl) | exact lk_i rfl (by omega) | exact lk_sl rfl (by omega) (by omega) (by omega) | decide | omega))⟩)⟩

theorem bd_q1c (size : Nat) (l : List Act) (c i : Nat) (ps : List Pl) (fr lv : Int) (xs : List Int) (o : Nat) (nd : List Nd) (k : Nat) (op left h lba : Int) (q : Bool) (f0 : Nat) (r0 : List Nat) (H : Inv size l.length ⟨i, ps, fr, lv, (f0 :: r0), xs, o, q, nd⟩) (p : Pl) (hp : ps[k]? = some p) (hl' : p.live = true) (hop : op ≠ 0 ∧ op ≠ 1 ∧ op ≠ 2) (hl : l.length ≤ 200) (h2 : size ≤ 60) (hx : l[i]? = some ⟨op, k, left, h, lba⟩) (hk : k ≤ 1000) :
    WS Try.prog (frameN Try.f4 2) 1 [.c (k1 (k1 (k2 (k1 (k2 (k2 (k2 (k2 (k2 (k2 (k2 (k2 (k2 (kb Try.f4))))))))))))))] (slt (SSp size (some (0,0)) l.length c ⟨i, ps, fr, lv, (f0 :: r0), xs, o, q, nd⟩)) (mem 0 (MMp l ⟨i, ps, fr, lv, (f0 :: r0), xs, o, q, nd⟩)) (PostP size l c ⟨i, ps, fr, lv, (f0 :: r0), xs, o, q, nd⟩) := by
  have hi : i < l.length := (List.getElem?_eq_some_iff.1 hx).1
  have hlen : ps.length = size + 1 := H.len
  have hnl : nd.length = size + 1 := H.nlen
  have hlv : lv = size - ((f0 :: r0) : List Nat).length := H.lv
  have hle : ((f0 :: r0) : List Nat).length ≤ size := free_le H
  have hllen : (lives ps).length = size + 1 := by simp [lives, hlen]
  have hL : k < size + 1 → (lives ps)[k]? = some (((lives ps)[k]?).getD false) := fun hk => by rw [List.getElem?_eq_getElem (by rw [hllen]; exact hk)]; rfl
  have hkl := (List.getElem?_eq_some_iff.1 hp).1
  obtain ⟨hk0, hno⟩ := (H.live k p hp).1 hl'
  have hLy : (lives ps)[k]? = some true := by rw [lives_get hp, hl']
  have hnd := H.nd k p hp hl'
  simp only [List.length_nil, List.length_cons] at hle
  have H' := inv_next H hi
  have W := whole_inv H' h2
  have T := get_yes ps k fr lv p hp hl' (by omega)
  simp only [roBlk, List.length_nil, List.length_cons] at W

  simp only [SSp, MMp, freeBlk, hlen, List.length_cons, List.length_nil]
  refine WS.pseq rfl ?_
  refine WS.pseq rfl ?_
  refine WS.pregion rfl ?_
  refine WS.po (tb := tb) rfl rfl rfl rfl rfl ?_
  refine WS.po (tb := tb) rfl rfl rfl rfl rfl ?_
  refine WS.po (tb := tb) rfl rfl rfl rfl rfl ?_
  refine WS.poDT (tb := tb) rfl rfl rfl rfl rfl (by omega) ?_
  refine WS.pend rfl ?_
  refine WS.pcondT rfl rfl ?_
  refine WS.pskip rfl ?_
  refine WS.pseq rfl ?_
  refine WS.pblock rfl ?_
  refine WS.pseq rfl ?_
  refine WS.pregion rfl ?_
  refine WS.po (tb := tb) rfl rfl rfl rfl rfl ?_
  refine WS.po (tb := tb) rfl rfl rfl rfl rfl ?_
  refine WS.poP (tb := tb) rfl rfl rfl rfl (step_P (evP_index rfl rfl rfl rfl rfl rfl (by omega))) (by simp only [Nat.zero_add, Nat.add_zero, Nat.reduceAdd, Nat.reduceMul, Nat.add_assoc, Nat.mul_one]; exact rfl) ?_
  refine WS.poA (tb := tb) rfl rfl rfl rfl (step_R rfl (evR_loads rfl rfl rfl rfl rfl (by exact (cellsR_part0 (R := rwAct) hx (by exact Nat.le_of_ble_eq_true rfl))) (by exact rfl))) (by simp only [List.drop_zero, List.drop_succ_cons, List.take_succ_cons, List.take_zero, rwPl, rwAct, rwNd]; exact rfl) ?_
  refine WS.po (tb := tb) rfl rfl rfl rfl rfl ?_; rw [new_mem]; simp only [List.cons_append, List.nil_append, vcells, mem_next, List.length_cons, List.length_nil, Nat.zero_add, Nat.reduceAdd, reps, List.append_nil, setL, List.set_cons_zero, List.set_cons_succ, Nat.zero_mul, Nat.reduceMul]
  refine WS.po0 (tb := tb) rfl rfl rfl rfl (step_H rfl rfl (evH_store rfl rfl rfl rfl rfl (Nat.zero_le _) rfl (by simp [vcells]) (Nat.le_of_ble_eq_true rfl))) ?_; rw [upd_mem _ rfl]; simp only [vcells, setL, List.set_cons_zero, List.set_cons_succ]
  refine WS.pend rfl ?_
  refine WS.pseq rfl ?_
  refine WS.pseq rfl ?_
  refine WS.pregion rfl ?_
  refine WS.poP (tb := tb) rfl rfl rfl rfl rfl (by simp only [List.getElem_toArray, List.getElem_cons_zero, List.getElem_cons_succ, Nat.zero_add, Nat.add_zero, Nat.reduceAdd, Nat.reduceMul, Nat.add_assoc, Nat.mul_one, Int.toNat_natCast, Int.reduceToNat, Int.toNat_zero, Nat.zero_mul]; exact rfl) ?_
  refine WS.po (tb := tb) rfl rfl rfl rfl rfl ?_
  refine WS.poB (tb := tb) false rfl rfl rfl rfl rfl rfl ?_
  refine WS.po (tb := tb) rfl rfl rfl rfl rfl ?_
  refine WS.poP (tb := tb) rfl rfl rfl rfl rfl (by simp only [List.getElem_toArray, List.getElem_cons_zero, List.getElem_cons_succ, Nat.zero_add, Nat.add_zero, Nat.reduceAdd, Nat.reduceMul, Nat.add_assoc, Nat.mul_one, Int.toNat_natCast, Int.reduceToNat, Int.toNat_zero, Nat.zero_mul]; exact rfl) ?_
  refine WS.po (tb := tb) rfl rfl rfl rfl rfl ?_
  refine WS.poDF (tb := tb) rfl rfl rfl rfl rfl (by omega) ?_
  refine WS.po (tb := tb) rfl rfl rfl rfl rfl ?_
  refine WS.pend rfl ?_
  refine WS.pcondF rfl rfl ?_
  refine WS.pskip rfl ?_
  refine WS.pseq rfl ?_
  refine WS.pregion rfl ?_
  refine WS.poP (tb := tb) rfl rfl rfl rfl rfl (by simp only [List.getElem_toArray, List.getElem_cons_zero, List.getElem_cons_succ, Nat.zero_add, Nat.add_zero, Nat.reduceAdd, Nat.reduceMul, Nat.add_assoc, Nat.mul_one, Int.toNat_natCast, Int.reduceToNat, Int.toNat_zero, Nat.zero_mul]; exact rfl) ?_
  refine WS.po (tb := tb) rfl rfl rfl rfl rfl ?_
  refine WS.poW (tb := tb) rfl rfl rfl rfl rfl (by simp only [lo]; omega) (by simp only [Am.hi]; omega) ?_
  refine WS.po (tb := tb) rfl rfl rfl rfl rfl ?_
  refine WS.pend rfl ?_
  refine WS.pseq rfl ?_
  refine WS.pregion rfl ?_
  refine WS.poP (tb := tb) rfl rfl rfl rfl rfl (by simp only [List.getElem_toArray, List.getElem_cons_zero, List.getElem_cons_succ, Nat.zero_add, Nat.add_zero, Nat.reduceAdd, Nat.reduceMul, Nat.add_assoc, Nat.mul_one, Int.toNat_natCast, Int.reduceToNat, Int.toNat_zero, Nat.zero_mul]; exact rfl) ?_
  refine WS.po (tb := tb) rfl rfl rfl rfl rfl ?_
  refine WS.poDT (tb := tb) rfl rfl rfl rfl rfl (by omega) ?_
  refine WS.po (tb := tb) rfl rfl rfl rfl rfl ?_
  refine WS.poP (tb := tb) rfl rfl rfl rfl rfl (by simp only [List.getElem_toArray, List.getElem_cons_zero, List.getElem_cons_succ, Nat.zero_add, Nat.add_zero, Nat.reduceAdd, Nat.reduceMul, Nat.add_assoc, Nat.mul_one, Int.toNat_natCast, Int.reduceToNat, Int.toNat_zero, Nat.zero_mul]; exact rfl) ?_
  refine WS.po (tb := tb) rfl rfl rfl rfl rfl ?_
  refine WS.po (tb := tb) rfl rfl rfl rfl rfl ?_
  refine WS.poDT (tb := tb) rfl rfl rfl rfl rfl (by omega) ?_
  refine WS.po (tb := tb) rfl rfl rfl rfl rfl ?_
  refine WS.po (tb := tb) rfl rfl rfl rfl rfl ?_
  refine WS.po (tb := tb) rfl rfl rfl rfl rfl ?_
  refine WS.poP (tb := tb) rfl rfl rfl rfl rfl (by simp only [List.getElem_toArray, List.getElem_cons_zero, List.getElem_cons_succ, Nat.zero_add, Nat.add_zero, Nat.reduceAdd, Nat.reduceMul, Nat.add_assoc, Nat.mul_one, Int.toNat_natCast, Int.reduceToNat, Int.toNat_zero, Nat.zero_mul]; exact rfl) ?_
  refine WS.po (tb := tb) rfl rfl rfl rfl rfl ?_
  refine WS.poP (tb := tb) rfl rfl rfl rfl (step_P (evP_index rfl rfl rfl rfl rfl rfl (by omega))) (by simp only [Nat.zero_add, Nat.add_zero, Nat.reduceAdd, Nat.reduceMul, Nat.add_assoc, Nat.mul_one]; exact rfl) ?_
  refine WS.po (tb := tb) rfl rfl rfl rfl (step_R rfl (evR_load rfl rfl rfl rfl (cellsB_get hLy))) ?_
  refine WS.po (tb := tb) rfl rfl rfl rfl rfl ?_
  refine WS.po (tb := tb) rfl rfl rfl rfl rfl ?_
  refine WS.pend rfl ?_
  refine WS.pseq rfl ?_
  refine WS.pseq rfl ?_
  refine WS.pregion rfl ?_
  refine WS.poP (tb := tb) rfl rfl rfl rfl rfl (by simp only [List.getElem_toArray, List.getElem_cons_zero, List.getElem_cons_succ, Nat.zero_add, Nat.add_zero, Nat.reduceAdd, Nat.reduceMul, Nat.add_assoc, Nat.mul_one, Int.toNat_natCast, Int.reduceToNat, Int.toNat_zero, Nat.zero_mul]; exact rfl) ?_
  refine WS.po (tb := tb) rfl rfl rfl rfl rfl ?_
  refine WS.pend rfl ?_
  refine WS.pblock rfl ?_
  refine WS.pseq rfl ?_
  refine WS.pregion rfl ?_
  refine WS.poDF (tb := tb) rfl rfl rfl rfl rfl (by omega) ?_
  refine WS.po (tb := tb) rfl rfl rfl rfl rfl ?_
  refine WS.pend rfl ?_
  refine WS.pcondF rfl rfl ?_
  refine WS.pseq rfl ?_
  refine WS.pregion rfl ?_
  refine WS.poDF (tb := tb) rfl rfl rfl rfl rfl (by omega) ?_
  refine WS.po (tb := tb) rfl rfl rfl rfl rfl ?_
  refine WS.pend rfl ?_
  refine WS.pcondF rfl rfl ?_
  refine WS.pseq rfl ?_
  refine WS.pregion rfl ?_
  refine WS.poDF (tb := tb) rfl rfl rfl rfl rfl (by omega) ?_
  refine WS.po (tb := tb) rfl rfl rfl rfl rfl ?_
  refine WS.pend rfl ?_
  refine WS.pcondF rfl rfl ?_
  refine WS.pseq rfl ?_
  refine WS.pregion rfl ?_
  refine WS.po (tb := tb) rfl rfl rfl rfl rfl ?_
  refine WS.po (tb := tb) rfl rfl rfl rfl rfl ?_
  refine WS.pcallM (tb := tb) [1,2] T rfl rfl rfl rfl rfl (by (try simp only [mapL, mapV, List.getD_cons_zero, List.getD_cons_succ]); exact rfl) (by simp [okL, okV, arM, hlen]) rfl (by simp [embP, okL, okV, mapL, mapV, mem_next, mem_get, mem_ro, mapL_cellsR, okL_cellsR, arM, hlen]) rfl ?_; rintro _ _ ⟨rfl, rfl⟩ -; simp only [plugL, setsL, newsL, isOwn, ownB, over, mapL, mapV, List.getD_cons_zero, List.getD_cons_succ, List.set_cons_zero, List.set_cons_succ, List.length_cons, List.length_nil, Nat.reduceAdd, Nat.reduceLT, Nat.zero_add, if_true, if_false, Nat.reduceSub, reduceIte, List.map_cons, List.map_nil, List.append_nil, List.cons_append, List.nil_append, mapL_cellsR, Nat.lt_irrefl, Nat.not_lt_zero, Nat.zero_lt_succ, Nat.lt_add_one, arM, hlen]
  refine WS.po (tb := tb) rfl rfl rfl rfl rfl ?_
  refine WS.po (tb := tb) rfl rfl rfl rfl rfl ?_
  refine WS.po (tb := tb) rfl rfl rfl rfl rfl ?_
  refine WS.po (tb := tb) rfl rfl rfl rfl rfl ?_; rw [new_mem]; simp only [List.cons_append, List.nil_append, vcells, mem_next, List.length_cons, List.length_nil, Nat.zero_add, Nat.reduceAdd, reps, List.append_nil, setL, List.set_cons_zero, List.set_cons_succ, Nat.zero_mul, Nat.reduceMul]
  refine WS.po0 (tb := tb) rfl rfl rfl rfl (step_H rfl rfl (evH_store rfl rfl rfl rfl rfl (Nat.zero_le _) rfl (by simp [vcells]) (Nat.le_of_ble_eq_true rfl))) ?_; rw [upd_mem _ rfl]; simp only [vcells, setL, List.set_cons_zero, List.set_cons_succ]
  refine WS.po (tb := tb) rfl rfl rfl rfl rfl ?_
  refine WS.pend rfl ?_
  refine WS.pseq rfl ?_
  refine WS.pdraw (tb := tb) (by kernel_rfl) rfl (by kernel_rfl) (by kernel_rfl) ?_
  refine WD.p (tb := tb) rfl rfl rfl rfl rfl ?_
  refine WD.p (tb := tb) rfl rfl rfl rfl rfl ?_
  refine WD.p (tb := tb) rfl rfl rfl rfl rfl ?_
  refine WD.pB (tb := tb) false rfl rfl rfl rfl rfl rfl ?_
  refine WD.p (tb := tb) rfl rfl rfl rfl rfl ?_
  refine WD.rA (tb := tb) rfl rfl rfl rfl rfl (by simp only [List.drop_zero, List.drop_succ_cons, List.take_succ_cons, List.take_zero, rwPl, rwAct, rwNd]; exact rfl) ?_
  refine WD.p (tb := tb) rfl rfl rfl rfl rfl ?_
  refine WD.p (tb := tb) rfl rfl rfl rfl rfl ?_
  refine WD.pP (tb := tb) rfl rfl rfl rfl (evP_index rfl rfl rfl rfl rfl rfl (by omega)) (by simp only [Nat.zero_add, Nat.add_zero, Nat.reduceAdd, Nat.reduceMul, Nat.add_assoc, Nat.mul_one]; exact rfl) ?_
  refine WD.rA (tb := tb) rfl rfl rfl rfl (evQ_R rfl (evR_loads rfl rfl rfl rfl rfl (by exact (cellsR_part0 (R := rwNd) hnd (by exact Nat.le_of_ble_eq_true rfl))) (by exact rfl))) (by simp only [List.drop_zero, List.drop_succ_cons, List.take_succ_cons, List.take_zero, rwPl, rwAct, rwNd]; exact rfl) ?_
  refine WD.pB (tb := tb) false rfl rfl rfl rfl (evP_neq rfl rfl rfl (by kernel_rfl) (by kernel_rfl)) (by rw [Node_eq]; exact nd_f (by omega)) ?_
  refine WD.p (tb := tb) rfl rfl rfl rfl rfl ?_
  refine WD.p (tb := tb) rfl rfl rfl rfl rfl ?_
  refine WD.p (tb := tb) rfl rfl rfl rfl rfl ?_
  refine WD.p (tb := tb) rfl rfl rfl rfl rfl ?_
  refine WD.pB (tb := tb) false rfl rfl rfl rfl rfl rfl ?_
  refine WD.p (tb := tb) rfl rfl rfl rfl rfl ?_
  refine WD.no rfl rfl rfl rfl ?_
  refine WD.no rfl rfl rfl rfl ?_
  refine WD.no rfl rfl rfl rfl ?_
  refine WD.no1 rfl rfl rfl rfl ?_
  refine WD.no rfl rfl rfl rfl ?_
  refine WD.no rfl rfl rfl rfl ?_
  refine WD.no rfl rfl rfl rfl ?_
  refine WD.p (tb := tb) rfl rfl rfl rfl rfl ?_
  refine WD.p (tb := tb) rfl rfl rfl rfl rfl ?_
  refine WD.fin rfl ?_
  refine WS.pcondF rfl rfl ?_
  refine WS.pskip rfl ?_
  refine WS.pseq rfl ?_
  refine WS.pregion rfl ?_
  refine WS.po (tb := tb) rfl rfl rfl rfl rfl ?_
  refine WS.po (tb := tb) rfl rfl rfl rfl rfl ?_
  refine WS.po (tb := tb) rfl rfl rfl rfl rfl ?_
  refine WS.pcallM (tb := tb) [1,2,3,4] W rfl rfl rfl rfl rfl (by (try simp only [mapL, mapV, List.getD_cons_zero, List.getD_cons_succ]); exact rfl) (by simp [okL, okV, arM, hlen]) rfl (by simp [embP, okL, okV, mapL, mapV, mem_next, mem_get, mem_ro, mapL_cellsR, okL_cellsR, arM, hlen]) rfl ?_; rintro _ _ ⟨rfl, rfl⟩ -; simp only [plugL, setsL, newsL, isOwn, ownB, over, mapL, mapV, List.getD_cons_zero, List.getD_cons_succ, List.set_cons_zero, List.set_cons_succ, List.length_cons, List.length_nil, Nat.reduceAdd, Nat.reduceLT, Nat.zero_add, if_true, if_false, Nat.reduceSub, reduceIte, List.map_cons, List.map_nil, List.append_nil, List.cons_append, List.nil_append, mapL_cellsR, Nat.lt_irrefl, Nat.not_lt_zero, Nat.zero_lt_succ, Nat.lt_add_one, arM, hlen]
  refine WS.poB (tb := tb) false rfl rfl rfl rfl rfl rfl ?_
  refine WS.pend rfl ?_
  refine WS.pcondF rfl rfl ?_
  refine WS.pskip rfl ?_
  refine WS.pregion rfl ?_
  refine WS.po (tb := tb) rfl rfl rfl rfl rfl ?_
  refine WS.poW (tb := tb) rfl rfl rfl rfl rfl (by simp only [lo]; omega) (by simp only [Am.hi]; omega) ?_
  refine WS.po (tb := tb) rfl rfl rfl rfl rfl ?_
  refine WS.pend rfl ?_
  refine WS.nil ?_
  all_goals exact ⟨_, H', by simp only; omega, (SeenBy.seen (v := [0,1,2,3,4,5]) ⟨rfl, rfl, (by simp [viewP, okL, okV, mapL, mapV, mem_get, mapL_cellsR, okL_cellsR, SSp, MMp, freeBlk, hlen, List.length_set]), (by first | exact rfl | exact own2_dist rfl rfl), (by simp only [slotsP, okV, okL, mapV, mapL, and_true, true_and, List.length_cons, List.length_nil, List.length_append, List.length_map, Nat.reduceAdd, Nat.reduceLT, SSp, MMp, freeBlk, hlen, List.length_set]; repeat' (first | exact rfl | refine ⟨?_, ?_⟩ | exact lk_m rfl (hmp _ rfl) | exact hok _ (Nat.le_of_ble_eq_true rfl) | exact lk_i rfl (by omega) | exact lk_sl rfl (by omega) (by omega) (by omega) | decide | omega))⟩)⟩
end Go.Proofs.Ytjoocblinfnhgaa.Am

