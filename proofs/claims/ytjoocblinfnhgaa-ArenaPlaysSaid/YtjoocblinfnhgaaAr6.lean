/- Free list and live nodes compared, walked. Conditions: those of each theorem. -/
import Derived.Test.YtjoocblinfnhgaaAr5
namespace Go.Proofs.Ytjoocblinfnhgaa.Am
open Go.Proofs
set_option maxRecDepth 100000
set_option maxHeartbeats 4000000
set_option linter.unusedSimpArgs false
set_option linter.unusedVariables false
def lives (ps : List Pl) : List Bool := ps.map Pl.live
theorem lives_get {ps : List Pl} {i : Nat} {p : Pl} (h : ps[i]? = some p) : (lives ps)[i]? = some p.live := by simp [lives, h]
theorem nums_len (l : List Nat) : (nums l).length = l.length := by simp [nums]
theorem nums_get {l : List Nat} {i k : Nat} (h : l[i]? = some k) : (nums l)[i]? = some (k : Int) := by simp [nums, h]
def spoilt (free : List Nat) (i : Nat) : List Int := mkl free.length (fun j => if j < i then 99 else (free.getD j 0 : Nat))
theorem whole_nil (ps : List Pl) (lv : Int) (o c : Nat) (q : Bool) (hm : ps.length ≤ 600) (h0 : 1 ≤ ps.length) (hlv : lv = ps.length - 1) :
  FM Try.prog 12 [.p (some (1,0)), .sl (some (2,o)) 0 c q, .sl (some (3,0)) ps.length ps.length false] (arM ps 0 lv ++ [none, some ⟨cellsR rwB (lives ps), 4, false⟩])
    (fun v M' => v = .b true ∧ M' = arM ps 0 lv ++ [none, some ⟨cellsR rwB (lives ps), 4, false⟩]) := by
  have F := free_walk ps 0 lv [] rfl hm (by simp)
  have F' : FM Try.prog 14 [.p (some (1,0))] (arM ps 0 lv) (fun v M' => v = .sl none 0 0 false ∧ M' = arM ps 0 lv) := F.mono fun v M' h => by
    rcases h with ⟨_, h1, h2⟩ | ⟨h, _⟩
    · exact ⟨h1, h2⟩
    · exact absurd rfl h
  have S' := size_is ps 0 lv hm
  have L' := live_is ps 0 lv
  refine FM.pbodyV (tb := tb) (fn := Try.f12) rfl rfl ?_
  simp only [argS, Nat.reduceAdd, arM, List.length_cons, List.length_nil, List.cons_append, List.nil_append]
  refine WS.pseq rfl ?_
  refine WS.pregion rfl ?_
  refine WS.po (tb := tb) rfl rfl rfl rfl rfl ?_
  refine WS.pend rfl ?_
  refine WS.pseq rfl ?_
  refine WS.pregion rfl ?_
  refine WS.po (tb := tb) rfl rfl rfl rfl rfl ?_
  refine WS.pcallM (tb := tb) [0,1] F' rfl rfl rfl rfl rfl (by (try simp only [mapL, mapV, List.getD_cons_zero, List.getD_cons_succ]); exact rfl) (by simp [okL, okV, arM]) rfl (by simp [embP, okL, okV, mapL, mapV, mem_next, mem_get, mem_ro, mapL_cellsR, okL_cellsR, arM]) rfl ?_; rintro _ _ ⟨rfl, rfl⟩ -; simp only [plugL, setsL, newsL, isOwn, ownB, over, mapL, mapV, List.getD_cons_zero, List.getD_cons_succ, List.set_cons_zero, List.set_cons_succ, List.length_cons, List.length_nil, Nat.reduceAdd, Nat.reduceLT, Nat.zero_add, if_true, if_false, Nat.reduceSub, reduceIte, List.map_cons, List.map_nil, List.append_nil, List.cons_append, List.nil_append, mapL_cellsR, Nat.lt_irrefl, Nat.not_lt_zero, Nat.zero_lt_succ, Nat.lt_add_one, arM]
  refine WS.po (tb := tb) rfl rfl rfl rfl rfl ?_
  refine WS.pend rfl ?_
  refine WS.pseq rfl ?_
  refine WS.pseq rfl ?_
  refine WS.pregion rfl ?_
  refine WS.po (tb := tb) rfl rfl rfl rfl rfl ?_
  refine WS.po (tb := tb) rfl rfl rfl rfl rfl ?_
  refine WS.po (tb := tb) rfl rfl rfl rfl rfl ?_
  refine WS.po (tb := tb) rfl rfl rfl rfl rfl ?_
  refine WS.poB (tb := tb) false rfl rfl rfl rfl rfl rfl ?_
  refine WS.po (tb := tb) rfl rfl rfl rfl rfl ?_
  refine WS.po (tb := tb) rfl rfl rfl rfl rfl ?_
  refine WS.pcallM (tb := tb) [0,1] S' rfl rfl rfl rfl rfl (by (try simp only [mapL, mapV, List.getD_cons_zero, List.getD_cons_succ]); exact rfl) (by simp [okL, okV, arM]) rfl (by simp [embP, okL, okV, mapL, mapV, mem_next, mem_get, mem_ro, mapL_cellsR, okL_cellsR, arM]) rfl ?_; rintro _ _ ⟨rfl, rfl⟩ -; simp only [plugL, setsL, newsL, isOwn, ownB, over, mapL, mapV, List.getD_cons_zero, List.getD_cons_succ, List.set_cons_zero, List.set_cons_succ, List.length_cons, List.length_nil, Nat.reduceAdd, Nat.reduceLT, Nat.zero_add, if_true, if_false, Nat.reduceSub, reduceIte, List.map_cons, List.map_nil, List.append_nil, List.cons_append, List.nil_append, mapL_cellsR, Nat.lt_irrefl, Nat.not_lt_zero, Nat.zero_lt_succ, Nat.lt_add_one, arM]
  refine WS.po (tb := tb) rfl rfl rfl rfl rfl ?_
  refine WS.po (tb := tb) rfl rfl rfl rfl rfl ?_
  refine WS.poW (tb := tb) rfl rfl rfl rfl rfl (by simp only [lo]; omega) (by simp only [Am.hi]; omega) ?_
  refine WS.poNF (tb := tb) rfl rfl rfl rfl rfl (by omega) ?_
  refine WS.po (tb := tb) rfl rfl rfl rfl rfl ?_
  refine WS.po (tb := tb) rfl rfl rfl rfl rfl ?_
  refine WS.po (tb := tb) rfl rfl rfl rfl rfl ?_
  refine WS.pcallM (tb := tb) [0,1] L' rfl rfl rfl rfl rfl (by (try simp only [mapL, mapV, List.getD_cons_zero, List.getD_cons_succ]); exact rfl) (by simp [okL, okV, arM]) rfl (by simp [embP, okL, okV, mapL, mapV, mem_next, mem_get, mem_ro, mapL_cellsR, okL_cellsR, arM]) rfl ?_; rintro _ _ ⟨rfl, rfl⟩ -; simp only [plugL, setsL, newsL, isOwn, ownB, over, mapL, mapV, List.getD_cons_zero, List.getD_cons_succ, List.set_cons_zero, List.set_cons_succ, List.length_cons, List.length_nil, Nat.reduceAdd, Nat.reduceLT, Nat.zero_add, if_true, if_false, Nat.reduceSub, reduceIte, List.map_cons, List.map_nil, List.append_nil, List.cons_append, List.nil_append, mapL_cellsR, Nat.lt_irrefl, Nat.not_lt_zero, Nat.zero_lt_succ, Nat.lt_add_one, arM]
  refine WS.po (tb := tb) rfl rfl rfl rfl rfl ?_
  refine WS.po (tb := tb) rfl rfl rfl rfl rfl ?_
  refine WS.poW (tb := tb) rfl rfl rfl rfl rfl (by simp only [lo]; omega) (by simp only [Am.hi]; omega) ?_
  refine WS.po (tb := tb) rfl rfl rfl rfl rfl ?_
  refine WS.po (tb := tb) rfl rfl rfl rfl rfl ?_
  refine WS.poW (tb := tb) rfl rfl rfl rfl rfl (by simp only [lo]; omega) (by simp only [Am.hi]; omega) ?_
  refine WS.poNF (tb := tb) rfl rfl rfl rfl rfl (by omega) ?_
  refine WS.po (tb := tb) rfl rfl rfl rfl rfl ?_
  refine WS.pend rfl ?_
  refine WS.pcondF rfl rfl ?_
  refine WS.pskip rfl ?_
  refine WS.pseq rfl ?_
  refine WS.pseq rfl ?_
  refine WS.pregion rfl ?_
  refine WS.po (tb := tb) rfl rfl rfl rfl rfl ?_
  refine WS.pend rfl ?_
  refine WS.pblock rfl ?_
  refine WS.ploopI (σ := Unit) (τ := Unit) (fun _ => [(0, .p (some (1,0))), (2, .sl (some (3, 0)) ps.length ps.length false), (7, .sl none 0 0 false), (8, .i .i64 0)])
    (fun i => arM ps 0 lv ++ [none, some ⟨cellsR rwB (lives ps), 4, false⟩]) (fun i => True) (fun i => 0)
    (fun _ => [(0, .p (some (1,0))), (2, .sl (some (3, 0)) ps.length ps.length false)]) (fun _ => arM ps 0 lv ++ [none, some ⟨cellsR rwB (lives ps), 4, false⟩]) (fun _ => True) 0 [0,1,2,3] () rfl trivial ⟨rfl, rfl, (by simp [viewP, okL, okV, mapL, mapV, mem_get, mapL_cellsR, okL_cellsR, arM]), (by first | exact rfl | exact own2_dist rfl rfl), (by simp only [slotsP, okV, okL, mapV, mapL, and_true, true_and, List.length_cons, List.length_nil, List.length_append, List.length_map, Nat.reduceAdd, Nat.reduceLT, arM]; repeat' (first | exact rfl | refine ⟨?_, ?_⟩ | exact lk_m rfl (hmp _ rfl) | exact hok _ (Nat.le_of_ble_eq_true rfl) | exact lk_i rfl (by omega) | exact lk_sl rfl (by omega) (by omega) (by omega) | decide | omega))⟩ rfl ?_ ?_
  · intro i hi
    simp only [arM, List.cons_append, List.nil_append]
    refine WS.pseq rfl ?_
    refine WS.pseq rfl ?_
    refine WS.pregion rfl ?_
    refine WS.po (tb := tb) rfl rfl rfl rfl rfl ?_
    refine WS.po (tb := tb) rfl rfl rfl rfl rfl ?_
    refine WS.po (tb := tb) rfl rfl rfl rfl rfl ?_
    refine WS.poB (tb := tb) false rfl rfl rfl rfl rfl rfl ?_
    refine WS.pend rfl ?_
    refine WS.pcondF rfl rfl ?_
    refine WS.pout rfl rfl ?_
    exact ⟨rfl, (), trivial, (SeenBy.seen (v := [0,1,2,3]) ⟨rfl, rfl, (by simp [viewP, okL, okV, mapL, mapV, mem_get, mapL_cellsR, okL_cellsR, arM]), (by first | exact rfl | exact own2_dist rfl rfl), (by simp only [slotsP, okV, okL, mapV, mapL, and_true, true_and, List.length_cons, List.length_nil, List.length_append, List.length_map, Nat.reduceAdd, Nat.reduceLT, arM]; repeat' (first | exact rfl | refine ⟨?_, ?_⟩ | exact lk_m rfl (hmp _ rfl) | exact hok _ (Nat.le_of_ble_eq_true rfl) | exact lk_i rfl (by omega) | exact lk_sl rfl (by omega) (by omega) (by omega) | decide | omega))⟩)⟩
  · rintro _ -
    simp only [arM, List.cons_append, List.nil_append]
    refine WS.pseq rfl ?_
    refine WS.pseq rfl ?_
    refine WS.pregion rfl ?_
    refine WS.po (tb := tb) rfl rfl rfl rfl rfl ?_
    refine WS.pend rfl ?_
    refine WS.pblock rfl ?_
    refine WS.ploopI (σ := Nat) (τ := Unit) (fun i => [(0, .p (some (1,0))), (2, .sl (some (3, 0)) ps.length ps.length false), (9, .i .i64 ((i : Int) + 1))]) (fun _ => arM ps 0 lv ++ [none, some ⟨cellsR rwB (lives ps), 4, false⟩]) (fun i => i + 1 ≤ ps.length) (fun i => ps.length - i)
      (fun _ => []) (fun _ => arM ps 0 lv ++ [none, some ⟨cellsR rwB (lives ps), 4, false⟩]) (fun _ => True) 2 [0,1,2,3] 0 rfl (by omega) ⟨rfl, rfl, (by simp [viewP, okL, okV, mapL, mapV, mem_get, mapL_cellsR, okL_cellsR, arM]), (by first | exact rfl | exact own2_dist rfl rfl), (by simp only [slotsP, okV, okL, mapV, mapL, and_true, true_and, List.length_cons, List.length_nil, List.length_append, List.length_map, Nat.reduceAdd, Nat.reduceLT, arM]; repeat' (first | exact rfl | refine ⟨?_, ?_⟩ | exact lk_m rfl (hmp _ rfl) | exact hok _ (Nat.le_of_ble_eq_true rfl) | exact lk_i rfl (by omega) | exact lk_sl rfl (by omega) (by omega) (by omega) | decide | omega))⟩ rfl ?_ ?_
    · intro i hi
      simp only [arM, List.cons_append, List.nil_append]
      by_cases h : i + 1 < ps.length
      · obtain ⟨p, hp⟩ : ∃ p, ps[i + 1]? = some p := ⟨_, List.getElem?_eq_getElem h⟩
        have hL := lives_get hp
        have e1 : (i : Int) + 1 = ((i + 1 : Nat) : Int) := by omega
        cases hl' : p.live with
        | true =>
          rw [hl'] at hL
          have G := get_yes ps (i + 1) 0 lv p hp hl' hm
          refine WS.pseq rfl ?_
          refine WS.pseq rfl ?_
          refine WS.pregion rfl ?_
          refine WS.po (tb := tb) rfl rfl rfl rfl rfl ?_
          refine WS.po (tb := tb) rfl rfl rfl rfl rfl ?_
          refine WS.po (tb := tb) rfl rfl rfl rfl rfl ?_
          refine WS.poDT (tb := tb) rfl rfl rfl rfl rfl (by omega) ?_
          refine WS.pend rfl ?_
          refine WS.pcondT rfl rfl ?_
          refine WS.pskip rfl ?_
          refine WS.pseq rfl ?_
          refine WS.pblock rfl ?_
          refine WS.pseq rfl ?_
          refine WS.pregion rfl ?_
          refine WS.po (tb := tb) rfl rfl rfl rfl rfl ?_
          refine WS.po (tb := tb) rfl rfl rfl rfl rfl ?_
          refine WS.poW (tb := tb) rfl rfl rfl rfl rfl (by simp only [lo]; omega) (by simp only [Am.hi]; omega) ?_
          refine WS.pcallM (tb := tb) [0,1] G rfl rfl rfl rfl rfl (by (try simp only [mapL, mapV, List.getD_cons_zero, List.getD_cons_succ]); exact rfl) (by simp [okL, okV, arM]) rfl (by simp [embP, okL, okV, mapL, mapV, mem_next, mem_get, mem_ro, mapL_cellsR, okL_cellsR, arM]) rfl ?_; rintro _ _ ⟨rfl, rfl⟩ -; simp only [plugL, setsL, newsL, isOwn, ownB, over, mapL, mapV, List.getD_cons_zero, List.getD_cons_succ, List.set_cons_zero, List.set_cons_succ, List.length_cons, List.length_nil, Nat.reduceAdd, Nat.reduceLT, Nat.zero_add, if_true, if_false, Nat.reduceSub, reduceIte, List.map_cons, List.map_nil, List.append_nil, List.cons_append, List.nil_append, mapL_cellsR, Nat.lt_irrefl, Nat.not_lt_zero, Nat.zero_lt_succ, Nat.lt_add_one, arM]
          refine WS.po (tb := tb) rfl rfl rfl rfl rfl ?_
          refine WS.po (tb := tb) rfl rfl rfl rfl rfl ?_
          refine WS.po (tb := tb) rfl rfl rfl rfl rfl ?_
          refine WS.po (tb := tb) rfl rfl rfl rfl rfl ?_; rw [new_mem]; simp only [List.cons_append, List.nil_append, vcells, mem_next, List.length_cons, List.length_nil, Nat.zero_add, Nat.reduceAdd, reps, List.append_nil, setL, List.set_cons_zero, List.set_cons_succ, Nat.zero_mul, Nat.reduceMul]
          refine WS.po0 (tb := tb) rfl rfl rfl rfl (step_H rfl rfl (evH_store rfl rfl rfl rfl rfl (Nat.zero_le _) rfl (by simp [vcells]) (Nat.le_of_ble_eq_true rfl))) ?_; rw [upd_mem _ rfl]; simp only [vcells, setL, List.set_cons_zero, List.set_cons_succ]
          refine WS.po (tb := tb) rfl rfl rfl rfl rfl ?_
          refine WS.pend rfl ?_
          refine WS.pseq rfl ?_
          refine WS.pregion rfl ?_
          refine WS.po (tb := tb) rfl rfl rfl rfl rfl ?_
          refine WS.poB (tb := tb) true rfl rfl rfl rfl rfl rfl ?_
          refine WS.po (tb := tb) rfl rfl rfl rfl rfl ?_
          refine WS.po (tb := tb) rfl rfl rfl rfl rfl ?_
          refine WS.poP (tb := tb) rfl rfl rfl rfl (step_P (evP_index rfl rfl rfl rfl rfl rfl (by omega))) (by simp only [Nat.zero_add, Nat.add_zero, Nat.reduceAdd, Nat.reduceMul, Nat.add_assoc, Nat.mul_one]; exact rfl) ?_
          refine WS.po (tb := tb) rfl rfl rfl rfl (step_R rfl (evR_load rfl rfl rfl rfl (cellsB_get hL))) ?_
          refine WS.poB (tb := tb) false rfl rfl rfl rfl rfl rfl ?_
          refine WS.pend rfl ?_
          refine WS.pcondF rfl rfl ?_
          refine WS.pskip rfl ?_
          refine WS.pregion rfl ?_
          refine WS.po (tb := tb) rfl rfl rfl rfl rfl ?_
          refine WS.poW (tb := tb) rfl rfl rfl rfl rfl (by simp only [lo]; omega) (by simp only [Am.hi]; omega) ?_
          refine WS.po (tb := tb) rfl rfl rfl rfl rfl ?_
          refine WS.pend rfl ?_
          refine WS.nil ?_
          exact ⟨i + 1, by omega, by omega, (SeenBy.seen (v := [0,1,2,3]) ⟨rfl, rfl, (by simp [viewP, okL, okV, mapL, mapV, mem_get, mapL_cellsR, okL_cellsR, arM]), (by first | exact rfl | exact own2_dist rfl rfl), (by simp only [slotsP, okV, okL, mapV, mapL, and_true, true_and, List.length_cons, List.length_nil, List.length_append, List.length_map, Nat.reduceAdd, Nat.reduceLT, arM]; repeat' (first | exact rfl | refine ⟨?_, ?_⟩ | exact lk_m rfl (hmp _ rfl) | exact hok _ (Nat.le_of_ble_eq_true rfl) | exact lk_i rfl (by omega) | exact lk_sl rfl (by omega) (by omega) (by omega) | decide | omega))⟩)⟩
        | false =>
          rw [hl'] at hL
          have G := get_no ps (i + 1) 0 lv (fun p' hp' => by rw [hp] at hp'; injection hp' with hp'; subst hp'; exact hl') hm (by omega)
          refine WS.pseq rfl ?_
          refine WS.pseq rfl ?_
          refine WS.pregion rfl ?_
          refine WS.po (tb := tb) rfl rfl rfl rfl rfl ?_
          refine WS.po (tb := tb) rfl rfl rfl rfl rfl ?_
          refine WS.po (tb := tb) rfl rfl rfl rfl rfl ?_
          refine WS.poDT (tb := tb) rfl rfl rfl rfl rfl (by omega) ?_
          refine WS.pend rfl ?_
          refine WS.pcondT rfl rfl ?_
          refine WS.pskip rfl ?_
          refine WS.pseq rfl ?_
          refine WS.pblock rfl ?_
          refine WS.pseq rfl ?_
          refine WS.pregion rfl ?_
          refine WS.po (tb := tb) rfl rfl rfl rfl rfl ?_
          refine WS.po (tb := tb) rfl rfl rfl rfl rfl ?_
          refine WS.poW (tb := tb) rfl rfl rfl rfl rfl (by simp only [lo]; omega) (by simp only [Am.hi]; omega) ?_
          refine WS.pcallM (tb := tb) [0,1] G rfl rfl rfl rfl rfl (by (try simp only [mapL, mapV, List.getD_cons_zero, List.getD_cons_succ]); exact rfl) (by simp [okL, okV, arM]) rfl (by simp [embP, okL, okV, mapL, mapV, mem_next, mem_get, mem_ro, mapL_cellsR, okL_cellsR, arM]) rfl ?_; rintro _ _ ⟨rfl, rfl⟩ -; simp only [plugL, setsL, newsL, isOwn, ownB, over, mapL, mapV, List.getD_cons_zero, List.getD_cons_succ, List.set_cons_zero, List.set_cons_succ, List.length_cons, List.length_nil, Nat.reduceAdd, Nat.reduceLT, Nat.zero_add, if_true, if_false, Nat.reduceSub, reduceIte, List.map_cons, List.map_nil, List.append_nil, List.cons_append, List.nil_append, mapL_cellsR, Nat.lt_irrefl, Nat.not_lt_zero, Nat.zero_lt_succ, Nat.lt_add_one, arM]
          refine WS.po (tb := tb) rfl rfl rfl rfl rfl ?_
          refine WS.po (tb := tb) rfl rfl rfl rfl rfl ?_
          refine WS.po (tb := tb) rfl rfl rfl rfl rfl ?_
          refine WS.po (tb := tb) rfl rfl rfl rfl rfl ?_; rw [new_mem]; simp only [List.cons_append, List.nil_append, vcells, mem_next, List.length_cons, List.length_nil, Nat.zero_add, Nat.reduceAdd, reps, List.append_nil, setL, List.set_cons_zero, List.set_cons_succ, Nat.zero_mul, Nat.reduceMul]
          refine WS.po0 (tb := tb) rfl rfl rfl rfl (step_H rfl rfl (evH_store rfl rfl rfl rfl rfl (Nat.zero_le _) rfl (by simp [vcells]) (Nat.le_of_ble_eq_true rfl))) ?_; rw [upd_mem _ rfl]; simp only [vcells, setL, List.set_cons_zero, List.set_cons_succ]
          refine WS.po (tb := tb) rfl rfl rfl rfl rfl ?_
          refine WS.pend rfl ?_
          refine WS.pseq rfl ?_
          refine WS.pregion rfl ?_
          refine WS.po (tb := tb) rfl rfl rfl rfl rfl ?_
          refine WS.poB (tb := tb) false rfl rfl rfl rfl rfl rfl ?_
          refine WS.po (tb := tb) rfl rfl rfl rfl rfl ?_
          refine WS.po (tb := tb) rfl rfl rfl rfl rfl ?_
          refine WS.poP (tb := tb) rfl rfl rfl rfl (step_P (evP_index rfl rfl rfl rfl rfl rfl (by omega))) (by simp only [Nat.zero_add, Nat.add_zero, Nat.reduceAdd, Nat.reduceMul, Nat.add_assoc, Nat.mul_one]; exact rfl) ?_
          refine WS.po (tb := tb) rfl rfl rfl rfl (step_R rfl (evR_load rfl rfl rfl rfl (cellsB_get hL))) ?_
          refine WS.poB (tb := tb) false rfl rfl rfl rfl rfl rfl ?_
          refine WS.pend rfl ?_
          refine WS.pcondF rfl rfl ?_
          refine WS.pskip rfl ?_
          refine WS.pregion rfl ?_
          refine WS.po (tb := tb) rfl rfl rfl rfl rfl ?_
          refine WS.poW (tb := tb) rfl rfl rfl rfl rfl (by simp only [lo]; omega) (by simp only [Am.hi]; omega) ?_
          refine WS.po (tb := tb) rfl rfl rfl rfl rfl ?_
          refine WS.pend rfl ?_
          refine WS.nil ?_
          exact ⟨i + 1, by omega, by omega, (SeenBy.seen (v := [0,1,2,3]) ⟨rfl, rfl, (by simp [viewP, okL, okV, mapL, mapV, mem_get, mapL_cellsR, okL_cellsR, arM]), (by first | exact rfl | exact own2_dist rfl rfl), (by simp only [slotsP, okV, okL, mapV, mapL, and_true, true_and, List.length_cons, List.length_nil, List.length_append, List.length_map, Nat.reduceAdd, Nat.reduceLT, arM]; repeat' (first | exact rfl | refine ⟨?_, ?_⟩ | exact lk_m rfl (hmp _ rfl) | exact hok _ (Nat.le_of_ble_eq_true rfl) | exact lk_i rfl (by omega) | exact lk_sl rfl (by omega) (by omega) (by omega) | decide | omega))⟩)⟩
      · refine WS.pseq rfl ?_
        refine WS.pseq rfl ?_
        refine WS.pregion rfl ?_
        refine WS.po (tb := tb) rfl rfl rfl rfl rfl ?_
        refine WS.po (tb := tb) rfl rfl rfl rfl rfl ?_
        refine WS.po (tb := tb) rfl rfl rfl rfl rfl ?_
        refine WS.poDF (tb := tb) rfl rfl rfl rfl rfl (by omega) ?_
        refine WS.pend rfl ?_
        refine WS.pcondF rfl rfl ?_
        refine WS.pout rfl rfl ?_
        exact ⟨rfl, (), trivial, (SeenBy.seen (v := [0,1,2,3]) ⟨rfl, rfl, (by simp [viewP, okL, okV, mapL, mapV, mem_get, mapL_cellsR, okL_cellsR, arM]), (by first | exact rfl | exact own2_dist rfl rfl), (by simp only [slotsP, okV, okL, mapV, mapL, and_true, true_and, List.length_cons, List.length_nil, List.length_append, List.length_map, Nat.reduceAdd, Nat.reduceLT, arM]; repeat' (first | exact rfl | refine ⟨?_, ?_⟩ | exact lk_m rfl (hmp _ rfl) | exact hok _ (Nat.le_of_ble_eq_true rfl) | exact lk_i rfl (by omega) | exact lk_sl rfl (by omega) (by omega) (by omega) | decide | omega))⟩)⟩
    · rintro _ -
      refine WS.pseq rfl ?_
      refine WS.pregion rfl ?_
      refine WS.po (tb := tb) rfl rfl rfl rfl rfl ?_
      refine WS.pend rfl ?_
      refine WS.pret rfl ⟨.inr rfl, _, rfl, ?_⟩
      exact ⟨_, rfl, [0,1,2,3], arM ps 0 lv ++ [none, some ⟨cellsR rwB (lives ps), 4, false⟩], .b true, ⟨rfl, rfl, (by simp [viewP, okL, okV, mapL, mapV, mem_get, mapL_cellsR, okL_cellsR, arM]), rfl⟩, rfl, trivial, rfl, rfl⟩
theorem whole_cons (ps : List Pl) (fr lv : Int) (k : Nat) (l : List Nat) (xs : List Int) (o c : Nat) (q : Bool) (hc : Chn ps fr (k :: l)) (hm : ps.length ≤ 600) (hf : (k :: l).length ≤ 600) (h0 : 1 ≤ ps.length) (hlv : lv = ps.length - 1 - (k :: l).length) (hx : xs.drop o = nums (k :: l)) :
  FM Try.prog 12 [.p (some (1,0)), .sl (some (2,o)) (k :: l).length c q, .sl (some (3,0)) ps.length ps.length false] (arM ps fr lv ++ [some ⟨cellsR (rwI .u32) xs, 27, false⟩, some ⟨cellsR rwB (lives ps), 4, false⟩])
    (fun v M' => v = .b true ∧ M' = arM ps fr lv ++ [some ⟨cellsR (rwI .u32) xs, 27, false⟩, some ⟨cellsR rwB (lives ps), 4, false⟩]) := by
  have F := free_walk ps fr lv (k :: l) hc hm hf
  have F' : FM Try.prog 14 [.p (some (1,0))] (arM ps fr lv) (fun v M' => v = .sl (some (2, 0)) (l.length + 1) (l.length + 1) true ∧ M' = arM ps fr lv ++ [some ⟨cellsR (rwI .u32) (nums (k :: l)), 27, true⟩]) := F.mono fun v M' h => by
    rcases h with ⟨h, _⟩ | ⟨_, h1, h2⟩
    · cases h
    · exact ⟨h1, h2⟩
  have S' := size_is ps fr lv hm
  have L' := live_is ps fr lv
  have hl : l.length ≤ 599 := by simpa using hf
  simp only [List.length_cons] at hlv
  refine FM.pbodyV (tb := tb) (fn := Try.f12) rfl rfl ?_
  simp only [argS, Nat.reduceAdd, arM, List.length_cons, List.length_nil, List.cons_append, List.nil_append]
  refine WS.pseq rfl ?_
  refine WS.pregion rfl ?_
  refine WS.po (tb := tb) rfl rfl rfl rfl rfl ?_
  refine WS.pend rfl ?_
  refine WS.pseq rfl ?_
  refine WS.pregion rfl ?_
  refine WS.po (tb := tb) rfl rfl rfl rfl rfl ?_
  refine WS.pcallM (tb := tb) [0,1] F' rfl rfl rfl rfl rfl (by (try simp only [mapL, mapV, List.getD_cons_zero, List.getD_cons_succ]); exact rfl) (by simp [okL, okV, arM]) rfl (by simp [embP, okL, okV, mapL, mapV, mem_next, mem_get, mem_ro, mapL_cellsR, okL_cellsR, arM]) rfl ?_; rintro _ _ ⟨rfl, rfl⟩ -; simp only [plugL, setsL, newsL, isOwn, ownB, over, mapL, mapV, List.getD_cons_zero, List.getD_cons_succ, List.set_cons_zero, List.set_cons_succ, List.length_cons, List.length_nil, Nat.reduceAdd, Nat.reduceLT, Nat.zero_add, if_true, if_false, Nat.reduceSub, reduceIte, List.map_cons, List.map_nil, List.append_nil, List.cons_append, List.nil_append, mapL_cellsR, Nat.lt_irrefl, Nat.not_lt_zero, Nat.zero_lt_succ, Nat.lt_add_one, arM]
  refine WS.po (tb := tb) rfl rfl rfl rfl rfl ?_
  refine WS.pend rfl ?_
  refine WS.pseq rfl ?_
  refine WS.pseq rfl ?_
  refine WS.pregion rfl ?_
  refine WS.po (tb := tb) rfl rfl rfl rfl rfl ?_
  refine WS.po (tb := tb) rfl rfl rfl rfl rfl ?_
  refine WS.po (tb := tb) rfl rfl rfl rfl rfl ?_
  refine WS.po (tb := tb) rfl rfl rfl rfl rfl ?_
  refine WS.poNF (tb := tb) rfl rfl rfl rfl rfl (by omega) ?_
  refine WS.po (tb := tb) rfl rfl rfl rfl rfl ?_
  refine WS.po (tb := tb) rfl rfl rfl rfl rfl ?_
  refine WS.pcallM (tb := tb) [0,1] S' rfl rfl rfl rfl rfl (by (try simp only [mapL, mapV, List.getD_cons_zero, List.getD_cons_succ]); exact rfl) (by simp [okL, okV, arM]) rfl (by simp [embP, okL, okV, mapL, mapV, mem_next, mem_get, mem_ro, mapL_cellsR, okL_cellsR, arM]) rfl ?_; rintro _ _ ⟨rfl, rfl⟩ -; simp only [plugL, setsL, newsL, isOwn, ownB, over, mapL, mapV, List.getD_cons_zero, List.getD_cons_succ, List.set_cons_zero, List.set_cons_succ, List.length_cons, List.length_nil, Nat.reduceAdd, Nat.reduceLT, Nat.zero_add, if_true, if_false, Nat.reduceSub, reduceIte, List.map_cons, List.map_nil, List.append_nil, List.cons_append, List.nil_append, mapL_cellsR, Nat.lt_irrefl, Nat.not_lt_zero, Nat.zero_lt_succ, Nat.lt_add_one, arM]
  refine WS.po (tb := tb) rfl rfl rfl rfl rfl ?_
  refine WS.po (tb := tb) rfl rfl rfl rfl rfl ?_
  refine WS.poW (tb := tb) rfl rfl rfl rfl rfl (by simp only [lo]; omega) (by simp only [Am.hi]; omega) ?_
  refine WS.poNF (tb := tb) rfl rfl rfl rfl rfl (by omega) ?_
  refine WS.po (tb := tb) rfl rfl rfl rfl rfl ?_
  refine WS.po (tb := tb) rfl rfl rfl rfl rfl ?_
  refine WS.po (tb := tb) rfl rfl rfl rfl rfl ?_
  refine WS.pcallM (tb := tb) [0,1] L' rfl rfl rfl rfl rfl (by (try simp only [mapL, mapV, List.getD_cons_zero, List.getD_cons_succ]); exact rfl) (by simp [okL, okV, arM]) rfl (by simp [embP, okL, okV, mapL, mapV, mem_next, mem_get, mem_ro, mapL_cellsR, okL_cellsR, arM]) rfl ?_; rintro _ _ ⟨rfl, rfl⟩ -; simp only [plugL, setsL, newsL, isOwn, ownB, over, mapL, mapV, List.getD_cons_zero, List.getD_cons_succ, List.set_cons_zero, List.set_cons_succ, List.length_cons, List.length_nil, Nat.reduceAdd, Nat.reduceLT, Nat.zero_add, if_true, if_false, Nat.reduceSub, reduceIte, List.map_cons, List.map_nil, List.append_nil, List.cons_append, List.nil_append, mapL_cellsR, Nat.lt_irrefl, Nat.not_lt_zero, Nat.zero_lt_succ, Nat.lt_add_one, arM]
  refine WS.po (tb := tb) rfl rfl rfl rfl rfl ?_
  refine WS.po (tb := tb) rfl rfl rfl rfl rfl ?_
  refine WS.poW (tb := tb) rfl rfl rfl rfl rfl (by simp only [lo]; omega) (by simp only [Am.hi]; omega) ?_
  refine WS.po (tb := tb) rfl rfl rfl rfl rfl ?_
  refine WS.po (tb := tb) rfl rfl rfl rfl rfl ?_
  refine WS.poW (tb := tb) rfl rfl rfl rfl rfl (by simp only [lo]; omega) (by simp only [Am.hi]; omega) ?_
  refine WS.poNF (tb := tb) rfl rfl rfl rfl rfl (by omega) ?_
  refine WS.po (tb := tb) rfl rfl rfl rfl rfl ?_
  refine WS.pend rfl ?_
  refine WS.pcondF rfl rfl ?_
  refine WS.pskip rfl ?_
  refine WS.pseq rfl ?_
  refine WS.pseq rfl ?_
  refine WS.pregion rfl ?_
  refine WS.po (tb := tb) rfl rfl rfl rfl rfl ?_
  refine WS.pend rfl ?_
  refine WS.pblock rfl ?_
  have hs0 : spoilt (k :: l) 0 = nums (k :: l) := (mkl_is (by simp [nums]) fun j hj => by
    have : (k :: l)[j]? = some ((k :: l).getD j 0) := by rw [List.getD_eq_getElem?_getD, List.getElem?_eq_getElem hj]; rfl
    rw [if_neg (by omega)]; exact nums_get this).symm
  refine WS.ploopI (σ := Nat) (τ := Unit) (fun i => [(0, .p (some (1,0))), (1, .sl (some (2,o)) (l.length + 1) c q), (2, .sl (some (3, 0)) ps.length ps.length false), (7, .sl (some (4, 0)) (l.length + 1) (l.length + 1) true), (8, .i .i64 i)])
    (fun i => arM ps fr lv ++ [some ⟨cellsR (rwI .u32) xs, 27, false⟩, some ⟨cellsR rwB (lives ps), 4, false⟩, some ⟨cellsR (rwI .u32) (spoilt (k :: l) i), 27, true⟩]) (fun i => i ≤ l.length + 1) (fun i => l.length + 1 - i)
    (fun _ => [(0, .p (some (1,0))), (2, .sl (some (3, 0)) ps.length ps.length false)]) (fun _ => arM ps fr lv ++ [some ⟨cellsR (rwI .u32) xs, 27, false⟩, some ⟨cellsR rwB (lives ps), 4, false⟩]) (fun _ => True) 0 [0,1,2,3,4] 0 rfl (Nat.zero_le _) ⟨rfl, rfl, (by simp [viewP, okL, okV, mapL, mapV, mem_get, mapL_cellsR, okL_cellsR, arM, hs0]), (by first | exact rfl | exact own2_dist rfl rfl), (by simp only [slotsP, okV, okL, mapV, mapL, and_true, true_and, List.length_cons, List.length_nil, List.length_append, List.length_map, Nat.reduceAdd, Nat.reduceLT, arM, hs0]; repeat' (first | exact rfl | refine ⟨?_, ?_⟩ | exact lk_m rfl (hmp _ rfl) | exact hok _ (Nat.le_of_ble_eq_true rfl) | exact lk_i rfl (by omega) | exact lk_sl rfl (by omega) (by omega) (by omega) | decide | omega))⟩ rfl ?_ ?_
  · intro i hi
    simp only [arM, List.cons_append, List.nil_append]
    by_cases h : i < l.length + 1
    · obtain ⟨y, hy⟩ : ∃ y, (k :: l)[i]? = some y := ⟨_, List.getElem?_eq_getElem (by simpa using h)⟩
      have hs1 : (spoilt (k :: l) i)[i]? = some (y : Int) := by
        rw [spoilt, mkl_get (by simpa using h), if_neg (by omega), List.getD_eq_getElem?_getD, hy]; rfl
      have hs2 : xs[o + i]? = some (y : Int) := by rw [← List.getElem?_drop, hx]; exact nums_get hy
      have hs3 : (spoilt (k :: l) i).set i 99 = spoilt (k :: l) (i + 1) := mkl_set (by rw [if_pos (by omega)]) (fun j _ hj => by
        by_cases h' : j < i
        · rw [if_pos h', if_pos (by omega)]
        · rw [if_neg h', if_neg (by omega)])
      have hs4 : setL (cellsR (rwI .u32) (spoilt (k :: l) i)) i [.i .u32 99] = cellsR (rwI .u32) (spoilt (k :: l) (i + 1)) := (cellsI_set (by rw [spoilt, mkl_len]; simpa using h)).trans (congrArg _ hs3)
      have hs5 : (spoilt (k :: l) i).length = l.length + 1 := by rw [spoilt, mkl_len]; rfl
      refine WS.pseq rfl ?_
      refine WS.pseq rfl ?_
      refine WS.pregion rfl ?_
      refine WS.po (tb := tb) rfl rfl rfl rfl rfl ?_
      refine WS.po (tb := tb) rfl rfl rfl rfl rfl ?_
      refine WS.po (tb := tb) rfl rfl rfl rfl rfl ?_
      refine WS.poDT (tb := tb) rfl rfl rfl rfl rfl (by omega) ?_
      refine WS.pend rfl ?_
      refine WS.pcondT rfl rfl ?_
      refine WS.pskip rfl ?_
      refine WS.pseq rfl ?_
      refine WS.pblock rfl ?_
      refine WS.pseq rfl ?_
      refine WS.pseq rfl ?_
      refine WS.pdraw (tb := tb) (by kernel_rfl) rfl (by kernel_rfl) (by kernel_rfl) ?_
      refine WD.p (tb := tb) rfl rfl rfl rfl rfl ?_
      refine WD.p (tb := tb) rfl rfl rfl rfl rfl ?_
      refine WD.pP (tb := tb) rfl rfl rfl rfl (evP_index rfl rfl rfl rfl rfl rfl (by omega)) (by simp only [Nat.zero_add, Nat.add_zero, Nat.reduceAdd, Nat.reduceMul, Nat.add_assoc, Nat.mul_one]; exact rfl) ?_
      refine WD.r (tb := tb) rfl rfl rfl rfl (evQ_R rfl (evR_load rfl rfl rfl rfl (cellsI_get hs1))) ?_
      refine WD.p (tb := tb) rfl rfl rfl rfl rfl ?_
      refine WD.p (tb := tb) rfl rfl rfl rfl rfl ?_
      refine WD.pP (tb := tb) rfl rfl rfl rfl (evP_index rfl rfl rfl rfl rfl rfl (by omega)) (by simp only [Nat.zero_add, Nat.add_zero, Nat.reduceAdd, Nat.reduceMul, Nat.add_assoc, Nat.mul_one]; exact rfl) ?_
      refine WD.r (tb := tb) rfl rfl rfl rfl (evQ_R rfl (evR_load rfl rfl rfl rfl (cellsI_get hs2))) ?_
      refine WD.pNF (tb := tb) rfl rfl rfl rfl rfl (by omega) ?_
      refine WD.fin rfl ?_
      refine WS.pcondF rfl rfl ?_
      refine WS.pskip rfl ?_
      refine WS.pregion rfl ?_
      refine WS.po (tb := tb) rfl rfl rfl rfl rfl ?_
      refine WS.po (tb := tb) rfl rfl rfl rfl rfl ?_
      refine WS.poP (tb := tb) rfl rfl rfl rfl (step_P (evP_index rfl rfl rfl rfl rfl rfl (by omega))) (by simp only [Nat.zero_add, Nat.add_zero, Nat.reduceAdd, Nat.reduceMul, Nat.add_assoc, Nat.mul_one]; exact rfl) ?_
      refine WS.po0 (tb := tb) rfl rfl rfl rfl (step_H rfl rfl (evH_store rfl rfl rfl rfl rfl (Nat.zero_le _) rfl (by simp [vcells]) (by simp only [Pl_len, vcells, List.length_cons, List.length_nil, cellsI_len, cellsB_len, List.length_set, List.length_replicate, List.length_append, List.length_map, List.length_take, List.length_drop, hs5]; omega))) ?_; rw [upd_mem _ rfl]; simp only [vcells, List.set_cons_zero, List.set_cons_succ, hs4]; (try simp only [setL, List.set_cons_zero, List.set_cons_succ])
      refine WS.pend rfl ?_
      refine WS.pregion rfl ?_
      refine WS.po (tb := tb) rfl rfl rfl rfl rfl ?_
      refine WS.poW (tb := tb) rfl rfl rfl rfl rfl (by simp only [lo]; omega) (by simp only [Am.hi]; omega) ?_
      refine WS.po (tb := tb) rfl rfl rfl rfl rfl ?_
      refine WS.pend rfl ?_
      refine WS.nil ?_
      exact ⟨i + 1, by omega, by omega, (SeenBy.seen (v := [0,1,2,3,4]) ⟨rfl, rfl, (by simp [viewP, okL, okV, mapL, mapV, mem_get, mapL_cellsR, okL_cellsR, arM]), (by first | exact rfl | exact own2_dist rfl rfl), (by simp only [slotsP, okV, okL, mapV, mapL, and_true, true_and, List.length_cons, List.length_nil, List.length_append, List.length_map, Nat.reduceAdd, Nat.reduceLT, arM]; repeat' (first | exact rfl | refine ⟨?_, ?_⟩ | exact lk_m rfl (hmp _ rfl) | exact hok _ (Nat.le_of_ble_eq_true rfl) | exact lk_i rfl (by omega) | exact lk_sl rfl (by omega) (by omega) (by omega) | decide | omega))⟩)⟩
    · refine WS.pseq rfl ?_
      refine WS.pseq rfl ?_
      refine WS.pregion rfl ?_
      refine WS.po (tb := tb) rfl rfl rfl rfl rfl ?_
      refine WS.po (tb := tb) rfl rfl rfl rfl rfl ?_
      refine WS.po (tb := tb) rfl rfl rfl rfl rfl ?_
      refine WS.poDF (tb := tb) rfl rfl rfl rfl rfl (by omega) ?_
      refine WS.pend rfl ?_
      refine WS.pcondF rfl rfl ?_
      refine WS.pout rfl rfl ?_
      exact ⟨rfl, (), trivial, (SeenBy.seen (v := [0,1,2,3]) ⟨rfl, rfl, (by simp [viewP, okL, okV, mapL, mapV, mem_get, mapL_cellsR, okL_cellsR, arM]), (by first | exact rfl | exact own2_dist rfl rfl), (by simp only [slotsP, okV, okL, mapV, mapL, and_true, true_and, List.length_cons, List.length_nil, List.length_append, List.length_map, Nat.reduceAdd, Nat.reduceLT, arM]; repeat' (first | exact rfl | refine ⟨?_, ?_⟩ | exact lk_m rfl (hmp _ rfl) | exact hok _ (Nat.le_of_ble_eq_true rfl) | exact lk_i rfl (by omega) | exact lk_sl rfl (by omega) (by omega) (by omega) | decide | omega))⟩)⟩
  · rintro _ -
    simp only [arM, List.cons_append, List.nil_append]
    refine WS.pseq rfl ?_
    refine WS.pseq rfl ?_
    refine WS.pregion rfl ?_
    refine WS.po (tb := tb) rfl rfl rfl rfl rfl ?_
    refine WS.pend rfl ?_
    refine WS.pblock rfl ?_
    refine WS.ploopI (σ := Nat) (τ := Unit) (fun i => [(0, .p (some (1,0))), (2, .sl (some (3, 0)) ps.length ps.length false), (9, .i .i64 ((i : Int) + 1))]) (fun _ => arM ps fr lv ++ [some ⟨cellsR (rwI .u32) xs, 27, false⟩, some ⟨cellsR rwB (lives ps), 4, false⟩]) (fun i => i + 1 ≤ ps.length) (fun i => ps.length - i)
      (fun _ => []) (fun _ => arM ps fr lv ++ [some ⟨cellsR (rwI .u32) xs, 27, false⟩, some ⟨cellsR rwB (lives ps), 4, false⟩]) (fun _ => True) 2 [0,1,2,3] 0 rfl (by omega) ⟨rfl, rfl, (by simp [viewP, okL, okV, mapL, mapV, mem_get, mapL_cellsR, okL_cellsR, arM]), (by first | exact rfl | exact own2_dist rfl rfl), (by simp only [slotsP, okV, okL, mapV, mapL, and_true, true_and, List.length_cons, List.length_nil, List.length_append, List.length_map, Nat.reduceAdd, Nat.reduceLT, arM]; repeat' (first | exact rfl | refine ⟨?_, ?_⟩ | exact lk_m rfl (hmp _ rfl) | exact hok _ (Nat.le_of_ble_eq_true rfl) | exact lk_i rfl (by omega) | exact lk_sl rfl (by omega) (by omega) (by omega) | decide | omega))⟩ rfl ?_ ?_
    · intro i hi
      simp only [arM, List.cons_append, List.nil_append]
      by_cases h : i + 1 < ps.length
      · obtain ⟨p, hp⟩ : ∃ p, ps[i + 1]? = some p := ⟨_, List.getElem?_eq_getElem h⟩
        have hL := lives_get hp
        have e1 : (i : Int) + 1 = ((i + 1 : Nat) : Int) := by omega
        cases hl' : p.live with
        | true =>
          rw [hl'] at hL
          have G := get_yes ps (i + 1) fr lv p hp hl' hm
          refine WS.pseq rfl ?_
          refine WS.pseq rfl ?_
          refine WS.pregion rfl ?_
          refine WS.po (tb := tb) rfl rfl rfl rfl rfl ?_
          refine WS.po (tb := tb) rfl rfl rfl rfl rfl ?_
          refine WS.po (tb := tb) rfl rfl rfl rfl rfl ?_
          refine WS.poDT (tb := tb) rfl rfl rfl rfl rfl (by omega) ?_
          refine WS.pend rfl ?_
          refine WS.pcondT rfl rfl ?_
          refine WS.pskip rfl ?_
          refine WS.pseq rfl ?_
          refine WS.pblock rfl ?_
          refine WS.pseq rfl ?_
          refine WS.pregion rfl ?_
          refine WS.po (tb := tb) rfl rfl rfl rfl rfl ?_
          refine WS.po (tb := tb) rfl rfl rfl rfl rfl ?_
          refine WS.poW (tb := tb) rfl rfl rfl rfl rfl (by simp only [lo]; omega) (by simp only [Am.hi]; omega) ?_
          refine WS.pcallM (tb := tb) [0,1] G rfl rfl rfl rfl rfl (by (try simp only [mapL, mapV, List.getD_cons_zero, List.getD_cons_succ]); exact rfl) (by simp [okL, okV, arM]) rfl (by simp [embP, okL, okV, mapL, mapV, mem_next, mem_get, mem_ro, mapL_cellsR, okL_cellsR, arM]) rfl ?_; rintro _ _ ⟨rfl, rfl⟩ -; simp only [plugL, setsL, newsL, isOwn, ownB, over, mapL, mapV, List.getD_cons_zero, List.getD_cons_succ, List.set_cons_zero, List.set_cons_succ, List.length_cons, List.length_nil, Nat.reduceAdd, Nat.reduceLT, Nat.zero_add, if_true, if_false, Nat.reduceSub, reduceIte, List.map_cons, List.map_nil, List.append_nil, List.cons_append, List.nil_append, mapL_cellsR, Nat.lt_irrefl, Nat.not_lt_zero, Nat.zero_lt_succ, Nat.lt_add_one, arM]
          refine WS.po (tb := tb) rfl rfl rfl rfl rfl ?_
          refine WS.po (tb := tb) rfl rfl rfl rfl rfl ?_
          refine WS.po (tb := tb) rfl rfl rfl rfl rfl ?_
          refine WS.po (tb := tb) rfl rfl rfl rfl rfl ?_; rw [new_mem]; simp only [List.cons_append, List.nil_append, vcells, mem_next, List.length_cons, List.length_nil, Nat.zero_add, Nat.reduceAdd, reps, List.append_nil, setL, List.set_cons_zero, List.set_cons_succ, Nat.zero_mul, Nat.reduceMul]
          refine WS.po0 (tb := tb) rfl rfl rfl rfl (step_H rfl rfl (evH_store rfl rfl rfl rfl rfl (Nat.zero_le _) rfl (by simp [vcells]) (Nat.le_of_ble_eq_true rfl))) ?_; rw [upd_mem _ rfl]; simp only [vcells, setL, List.set_cons_zero, List.set_cons_succ]
          refine WS.po (tb := tb) rfl rfl rfl rfl rfl ?_
          refine WS.pend rfl ?_
          refine WS.pseq rfl ?_
          refine WS.pregion rfl ?_
          refine WS.po (tb := tb) rfl rfl rfl rfl rfl ?_
          refine WS.poB (tb := tb) true rfl rfl rfl rfl rfl rfl ?_
          refine WS.po (tb := tb) rfl rfl rfl rfl rfl ?_
          refine WS.po (tb := tb) rfl rfl rfl rfl rfl ?_
          refine WS.poP (tb := tb) rfl rfl rfl rfl (step_P (evP_index rfl rfl rfl rfl rfl rfl (by omega))) (by simp only [Nat.zero_add, Nat.add_zero, Nat.reduceAdd, Nat.reduceMul, Nat.add_assoc, Nat.mul_one]; exact rfl) ?_
          refine WS.po (tb := tb) rfl rfl rfl rfl (step_R rfl (evR_load rfl rfl rfl rfl (cellsB_get hL))) ?_
          refine WS.poB (tb := tb) false rfl rfl rfl rfl rfl rfl ?_
          refine WS.pend rfl ?_
          refine WS.pcondF rfl rfl ?_
          refine WS.pskip rfl ?_
          refine WS.pregion rfl ?_
          refine WS.po (tb := tb) rfl rfl rfl rfl rfl ?_
          refine WS.poW (tb := tb) rfl rfl rfl rfl rfl (by simp only [lo]; omega) (by simp only [Am.hi]; omega) ?_
          refine WS.po (tb := tb) rfl rfl rfl rfl rfl ?_
          refine WS.pend rfl ?_
          refine WS.nil ?_
          exact ⟨i + 1, by omega, by omega, (SeenBy.seen (v := [0,1,2,3]) ⟨rfl, rfl, (by simp [viewP, okL, okV, mapL, mapV, mem_get, mapL_cellsR, okL_cellsR, arM]), (by first | exact rfl | exact own2_dist rfl rfl), (by simp only [slotsP, okV, okL, mapV, mapL, and_true, true_and, List.length_cons, List.length_nil, List.length_append, List.length_map, Nat.reduceAdd, Nat.reduceLT, arM]; repeat' (first | exact rfl | refine ⟨?_, ?_⟩ | exact lk_m rfl (hmp _ rfl) | exact hok _ (Nat.le_of_ble_eq_true rfl) | exact lk_i rfl (by omega) | exact lk_sl rfl (by omega) (by omega) (by omega) | decide | omega))⟩)⟩
        | false =>
          rw [hl'] at hL
          have G := get_no ps (i + 1) fr lv (fun p' hp' => by rw [hp] at hp'; injection hp' with hp'; subst hp'; exact hl') hm (by omega)
          refine WS.pseq rfl ?_
          refine WS.pseq rfl ?_
          refine WS.pregion rfl ?_
          refine WS.po (tb := tb) rfl rfl rfl rfl rfl ?_
          refine WS.po (tb := tb) rfl rfl rfl rfl rfl ?_
          refine WS.po (tb := tb) rfl rfl rfl rfl rfl ?_
          refine WS.poDT (tb := tb) rfl rfl rfl rfl rfl (by omega) ?_
          refine WS.pend rfl ?_
          refine WS.pcondT rfl rfl ?_
          refine WS.pskip rfl ?_
          refine WS.pseq rfl ?_
          refine WS.pblock rfl ?_
          refine WS.pseq rfl ?_
          refine WS.pregion rfl ?_
          refine WS.po (tb := tb) rfl rfl rfl rfl rfl ?_
          refine WS.po (tb := tb) rfl rfl rfl rfl rfl ?_
          refine WS.poW (tb := tb) rfl rfl rfl rfl rfl (by simp only [lo]; omega) (by simp only [Am.hi]; omega) ?_
          refine WS.pcallM (tb := tb) [0,1] G rfl rfl rfl rfl rfl (by (try simp only [mapL, mapV, List.getD_cons_zero, List.getD_cons_succ]); exact rfl) (by simp [okL, okV, arM]) rfl (by simp [embP, okL, okV, mapL, mapV, mem_next, mem_get, mem_ro, mapL_cellsR, okL_cellsR, arM]) rfl ?_; rintro _ _ ⟨rfl, rfl⟩ -; simp only [plugL, setsL, newsL, isOwn, ownB, over, mapL, mapV, List.getD_cons_zero, List.getD_cons_succ, List.set_cons_zero, List.set_cons_succ, List.length_cons, List.length_nil, Nat.reduceAdd, Nat.reduceLT, Nat.zero_add, if_true, if_false, Nat.reduceSub, reduceIte, List.map_cons, List.map_nil, List.append_nil, List.cons_append, List.nil_append, mapL_cellsR, Nat.lt_irrefl, Nat.not_lt_zero, Nat.zero_lt_succ, Nat.lt_add_one, arM]
          refine WS.po (tb := tb) rfl rfl rfl rfl rfl ?_
          refine WS.po (tb := tb) rfl rfl rfl rfl rfl ?_
          refine WS.po (tb := tb) rfl rfl rfl rfl rfl ?_
          refine WS.po (tb := tb) rfl rfl rfl rfl rfl ?_; rw [new_mem]; simp only [List.cons_append, List.nil_append, vcells, mem_next, List.length_cons, List.length_nil, Nat.zero_add, Nat.reduceAdd, reps, List.append_nil, setL, List.set_cons_zero, List.set_cons_succ, Nat.zero_mul, Nat.reduceMul]
          refine WS.po0 (tb := tb) rfl rfl rfl rfl (step_H rfl rfl (evH_store rfl rfl rfl rfl rfl (Nat.zero_le _) rfl (by simp [vcells]) (Nat.le_of_ble_eq_true rfl))) ?_; rw [upd_mem _ rfl]; simp only [vcells, setL, List.set_cons_zero, List.set_cons_succ]
          refine WS.po (tb := tb) rfl rfl rfl rfl rfl ?_
          refine WS.pend rfl ?_
          refine WS.pseq rfl ?_
          refine WS.pregion rfl ?_
          refine WS.po (tb := tb) rfl rfl rfl rfl rfl ?_
          refine WS.poB (tb := tb) false rfl rfl rfl rfl rfl rfl ?_
          refine WS.po (tb := tb) rfl rfl rfl rfl rfl ?_
          refine WS.po (tb := tb) rfl rfl rfl rfl rfl ?_
          refine WS.poP (tb := tb) rfl rfl rfl rfl (step_P (evP_index rfl rfl rfl rfl rfl rfl (by omega))) (by simp only [Nat.zero_add, Nat.add_zero, Nat.reduceAdd, Nat.reduceMul, Nat.add_assoc, Nat.mul_one]; exact rfl) ?_
          refine WS.po (tb := tb) rfl rfl rfl rfl (step_R rfl (evR_load rfl rfl rfl rfl (cellsB_get hL))) ?_
          refine WS.poB (tb := tb) false rfl rfl rfl rfl rfl rfl ?_
          refine WS.pend rfl ?_
          refine WS.pcondF rfl rfl ?_
          refine WS.pskip rfl ?_
          refine WS.pregion rfl ?_
          refine WS.po (tb := tb) rfl rfl rfl rfl rfl ?_
          refine WS.poW (tb := tb) rfl rfl rfl rfl rfl (by simp only [lo]; omega) (by simp only [Am.hi]; omega) ?_
          refine WS.po (tb := tb) rfl rfl rfl rfl rfl ?_
          refine WS.pend rfl ?_
          refine WS.nil ?_
          exact ⟨i + 1, by omega, by omega, (SeenBy.seen (v := [0,1,2,3]) ⟨rfl, rfl, (by simp [viewP, okL, okV, mapL, mapV, mem_get, mapL_cellsR, okL_cellsR, arM]), (by first | exact rfl | exact own2_dist rfl rfl), (by simp only [slotsP, okV, okL, mapV, mapL, and_true, true_and, List.length_cons, List.length_nil, List.length_append, List.length_map, Nat.reduceAdd, Nat.reduceLT, arM]; repeat' (first | exact rfl | refine ⟨?_, ?_⟩ | exact lk_m rfl (hmp _ rfl) | exact hok _ (Nat.le_of_ble_eq_true rfl) | exact lk_i rfl (by omega) | exact lk_sl rfl (by omega) (by omega) (by omega) | decide | omega))⟩)⟩
      · refine WS.pseq rfl ?_
        refine WS.pseq rfl ?_
        refine WS.pregion rfl ?_
        refine WS.po (tb := tb) rfl rfl rfl rfl rfl ?_
        refine WS.po (tb := tb) rfl rfl rfl rfl rfl ?_
        refine WS.po (tb := tb) rfl rfl rfl rfl rfl ?_
        refine WS.poDF (tb := tb) rfl rfl rfl rfl rfl (by omega) ?_
        refine WS.pend rfl ?_
        refine WS.pcondF rfl rfl ?_
        refine WS.pout rfl rfl ?_
        exact ⟨rfl, (), trivial, (SeenBy.seen (v := [0,1,2,3]) ⟨rfl, rfl, (by simp [viewP, okL, okV, mapL, mapV, mem_get, mapL_cellsR, okL_cellsR, arM]), (by first | exact rfl | exact own2_dist rfl rfl), (by simp only [slotsP, okV, okL, mapV, mapL, and_true, true_and, List.length_cons, List.length_nil, List.length_append, List.length_map, Nat.reduceAdd, Nat.reduceLT, arM]; repeat' (first | exact rfl | refine ⟨?_, ?_⟩ | exact lk_m rfl (hmp _ rfl) | exact hok _ (Nat.le_of_ble_eq_true rfl) | exact lk_i rfl (by omega) | exact lk_sl rfl (by omega) (by omega) (by omega) | decide | omega))⟩)⟩
    · rintro _ -
      refine WS.pseq rfl ?_
      refine WS.pregion rfl ?_
      refine WS.po (tb := tb) rfl rfl rfl rfl rfl ?_
      refine WS.pend rfl ?_
      refine WS.pret rfl ⟨.inr rfl, _, rfl, ?_⟩
      exact ⟨_, rfl, [0,1,2,3], arM ps fr lv ++ [some ⟨cellsR (rwI .u32) xs, 27, false⟩, some ⟨cellsR rwB (lives ps), 4, false⟩], .b true, ⟨rfl, rfl, (by simp [viewP, okL, okV, mapL, mapV, mem_get, mapL_cellsR, okL_cellsR, arM]), rfl⟩, rfl, trivial, rfl, rfl⟩
end Go.Proofs.Ytjoocblinfnhgaa.Am

