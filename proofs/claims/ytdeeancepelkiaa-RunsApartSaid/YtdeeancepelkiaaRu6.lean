/- A change, walked. Conditions: those of each theorem. -/
import Derived.Test.YtdeeancepelkiaaRu5
namespace Go.Proofs.Ytdeeancepelkiaa.Am
open Go.Proofs
set_option maxRecDepth 1000000
set_option maxHeartbeats 4000000
set_option linter.unusedSimpArgs false
set_option linter.unusedVariables false
theorem change_00 (cap most : Nat) (s : TS) (h : TOk most s) (hm : most ≤ 512) (ho : ([] : List Rn).length ≤ 600) (hf : ([] : List Rn).length ≤ 600) (C : Chg most s ([] : List Rn) ([] : List Rn)) :
    FM Try.prog 33 [.p (some (3,0)), slP 4 ([] : List Rn), slP 5 ([] : List Rn)] (chM cap most s (bk0 ([] : List Rn)) (bk0 ([] : List Rn))) (fun v M' => v = .i .i64 0 ∧ M' = chM cap most (insL' most (delL s ([] : List Rn)) ([] : List Rn)) (bk0 ([] : List Rn)) (bk0 ([] : List Rn))) := by
  have L := tlen_walk s.ps s.fr s.n s.T.id s.n
  have hle := h.le
  have C1 := C.fits
  have C2 := C.gone
  have C3 := C.come
  simp only [List.length_cons, List.length_nil] at ho hf C1 C2
  refine FM.pbodyV (tb := tb) (fn := Try.f33) rfl rfl ?_
  simp only [argS, Nat.reduceAdd, chM, rmM, tsM, trM, arM, bk0, slP, List.length_cons, List.length_nil, List.cons_append, List.nil_append]
  refine WS.pseq rfl ?_
  refine WS.pregion rfl ?_
  refine WS.po (tb := tb) rfl rfl rfl rfl rfl ?_
  refine WS.pend rfl ?_
  refine WS.pseq rfl ?_
  refine WS.pseq rfl ?_
  refine WS.pdrawQ (tb := tb) [0,1,2] L (by exact rfl) (by kernel_rfl) rfl (by kernel_rfl) (by kernel_rfl) (by (try simp only [mapL, mapV, ll]) <;> exact rfl) (by simp [okL, okV, trR, arR]) (by simp [embP, okL, okV, mapL, mapV, lockH, mem_next, mem_get, mem_ro, mapL_cellsR, okL_cellsR, trR, arR] <;> simp [LH.get, mem, memT, T.get, T.put, T.setF]; fail_if_success exfalso) rfl (by first | trivial | simp [okV, okL]) (fun _ => ?_)
  refine WD.p (tb := tb) rfl rfl rfl rfl rfl ?_
  refine WD.p (tb := tb) rfl rfl rfl rfl rfl ?_
  refine WD.pP (tb := tb) rfl rfl rfl rfl rfl (by simp only [nl, nz, Nat.reduceAdd, Nat.reduceMul, Int.reduceToNat]; exact rfl) ?_
  refine WD.r (tb := tb) rfl rfl rfl rfl rfl ?_
  refine WD.r (tb := tb) rfl rfl rfl rfl (evQ_call rfl rfl rfl rfl rfl) ?_
  refine WD.p (tb := tb) rfl rfl rfl rfl rfl ?_
  refine WD.p (tb := tb) rfl rfl rfl rfl rfl ?_
  refine WD.pW (tb := tb) rfl rfl rfl rfl rfl (by simp only [lo]; omega) (by simp only [Am.hi]; omega) ?_
  refine WD.p (tb := tb) rfl rfl rfl rfl rfl ?_
  refine WD.p (tb := tb) rfl rfl rfl rfl rfl ?_
  refine WD.pW (tb := tb) rfl rfl rfl rfl rfl (by simp only [lo]; omega) (by simp only [Am.hi]; omega) ?_
  refine WD.p (tb := tb) rfl rfl rfl rfl rfl ?_
  refine WD.p (tb := tb) rfl rfl rfl rfl rfl ?_
  refine WD.pP (tb := tb) rfl rfl rfl rfl rfl (by simp only [nl, nz, Nat.reduceAdd, Nat.reduceMul, Int.reduceToNat]; exact rfl) ?_
  refine WD.r (tb := tb) rfl rfl rfl rfl rfl ?_
  refine WD.pDF (tb := tb) rfl rfl rfl rfl rfl (by omega) ?_
  refine WD.fin rfl ?_
  refine WS.pcondF rfl rfl ?_
  refine WS.pskip rfl ?_
  refine WS.pseq rfl ?_
  refine WS.pseq rfl ?_
  refine WS.pregion rfl ?_
  refine WS.po (tb := tb) rfl rfl rfl rfl rfl ?_
  refine WS.po (tb := tb) rfl rfl rfl rfl rfl ?_
  refine WS.po (tb := tb) rfl rfl rfl rfl rfl ?_
  refine WS.pend rfl ?_
  refine WS.pblock rfl ?_
  refine WS.ploopI (σ := Nat) (τ := Unit) (fun i => [(0, .p (some (3,0))), (2, .sl none 0 0 false), (28, .sl none 0 0 false), (29, .i .i64 0), (30, .i .i64 i)]) (fun i => chM cap most (delL s (([] : List Rn).take i)) (bk0 ([] : List Rn)) (bk0 ([] : List Rn))) (fun i => i ≤ 0) (fun i => 0 - i)
    (fun _ => [(0, .p (some (3,0))), (2, .sl none 0 0 false)]) (fun _ => chM cap most (delL s ([] : List Rn)) (bk0 ([] : List Rn)) (bk0 ([] : List Rn))) (fun _ => True) 0 [0,1,2,3,4,5] 0 rfl (Nat.zero_le _) ⟨rfl, rfl, (by simp [viewP, okL, okV, mapL, mapV, mem_get, mapL_cellsR, okL_cellsR, chM, rmM, tsM, trM, arM, bk0, delL, List.take_zero, List.foldl_nil]), (by first | exact rfl | exact own2_dist rfl rfl), (by simp only [slotsP, okV, okL, mapV, mapL, and_true, true_and, List.length_cons, List.length_nil, List.length_append, List.length_map, Nat.reduceAdd, Nat.reduceLT, chM, rmM, tsM, trM, arM, bk0, delL, List.take_zero, List.foldl_nil]; repeat' (first | exact rfl | refine ⟨?_, ?_⟩ | exact lk_m rfl (hmp _ rfl) | exact lk_m rfl (hmp2 _ rfl) | exact hok _ (Nat.le_of_ble_eq_true rfl) | exact hok2 _ (Nat.le_of_ble_eq_true rfl) | exact lk_i rfl (by omega) | exact lk_sl rfl (by omega) (by omega) (by omega) | decide | omega))⟩ rfl ?_ ?_
  · intro i hi
    simp only [chM, rmM, tsM, trM, arM, bk0, List.cons_append, List.nil_append]
    obtain rfl : i = 0 := by omega
    refine WS.pseq rfl ?_
    refine WS.pregion rfl ?_
    refine WS.poB (tb := tb) false rfl rfl rfl rfl rfl rfl ?_
    refine WS.pend rfl ?_
    refine WS.pseq rfl ?_
    refine WS.pcondF rfl rfl ?_
    refine WS.pout rfl rfl ?_
    exact ⟨rfl, (), trivial, (SeenBy.seen (v := [0,1,2,3,4,5]) ⟨rfl, rfl, (by simp [viewP, okL, okV, mapL, mapV, mem_get, mapL_cellsR, okL_cellsR, chM, rmM, tsM, trM, arM, bk0, delL, List.take_zero, List.foldl_nil]), (by first | exact rfl | exact own2_dist rfl rfl), (by simp only [slotsP, okV, okL, mapV, mapL, and_true, true_and, List.length_cons, List.length_nil, List.length_append, List.length_map, Nat.reduceAdd, Nat.reduceLT, chM, rmM, tsM, trM, arM, bk0, delL, List.take_zero, List.foldl_nil]; repeat' (first | exact rfl | refine ⟨?_, ?_⟩ | exact lk_m rfl (hmp _ rfl) | exact lk_m rfl (hmp2 _ rfl) | exact hok _ (Nat.le_of_ble_eq_true rfl) | exact hok2 _ (Nat.le_of_ble_eq_true rfl) | exact lk_i rfl (by omega) | exact lk_sl rfl (by omega) (by omega) (by omega) | decide | omega))⟩)⟩
  · rintro _ -
    have hd := delL_ok ([] : List Rn) h
    generalize hu : delL s ([] : List Rn) = u at *
    simp only [chM, rmM, tsM, trM, arM, bk0, List.cons_append, List.nil_append]
    refine WS.pseq rfl ?_
    refine WS.pseq rfl ?_
    refine WS.pregion rfl ?_
    refine WS.po (tb := tb) rfl rfl rfl rfl rfl ?_
    refine WS.po (tb := tb) rfl rfl rfl rfl rfl ?_
    refine WS.po (tb := tb) rfl rfl rfl rfl rfl ?_
    refine WS.pend rfl ?_
    refine WS.pblock rfl ?_
    refine WS.ploopI (σ := Nat) (τ := Unit) (fun i => [(0, .p (some (3,0))), (42, .sl none 0 0 false), (43, .i .i64 0), (44, .i .i64 i)]) (fun i => chM cap most (insL' most u (([] : List Rn).take i)) (bk0 ([] : List Rn)) (bk0 ([] : List Rn))) (fun i => i ≤ 0) (fun i => 0 - i)
      (fun _ => []) (fun _ => chM cap most (insL' most u ([] : List Rn)) (bk0 ([] : List Rn)) (bk0 ([] : List Rn))) (fun _ => True) 2 [0,1,2,3,4,5] 0 rfl (Nat.zero_le _) ⟨rfl, rfl, (by simp [viewP, okL, okV, mapL, mapV, mem_get, mapL_cellsR, okL_cellsR, chM, rmM, tsM, trM, arM, bk0, insL', List.take_zero, List.foldl_nil]), (by first | exact rfl | exact own2_dist rfl rfl), (by simp only [slotsP, okV, okL, mapV, mapL, and_true, true_and, List.length_cons, List.length_nil, List.length_append, List.length_map, Nat.reduceAdd, Nat.reduceLT, chM, rmM, tsM, trM, arM, bk0, insL', List.take_zero, List.foldl_nil]; repeat' (first | exact rfl | refine ⟨?_, ?_⟩ | exact lk_m rfl (hmp _ rfl) | exact lk_m rfl (hmp2 _ rfl) | exact hok _ (Nat.le_of_ble_eq_true rfl) | exact hok2 _ (Nat.le_of_ble_eq_true rfl) | exact lk_i rfl (by omega) | exact lk_sl rfl (by omega) (by omega) (by omega) | decide | omega))⟩ rfl ?_ ?_
    · intro i hi
      simp only [chM, rmM, tsM, trM, arM, bk0, List.cons_append, List.nil_append]
      obtain rfl : i = 0 := by omega
      refine WS.pseq rfl ?_
      refine WS.pregion rfl ?_
      refine WS.poB (tb := tb) false rfl rfl rfl rfl rfl rfl ?_
      refine WS.pend rfl ?_
      refine WS.pseq rfl ?_
      refine WS.pcondF rfl rfl ?_
      refine WS.pout rfl rfl ?_
      exact ⟨rfl, (), trivial, (SeenBy.seen (v := [0,1,2,3,4,5]) ⟨rfl, rfl, (by simp [viewP, okL, okV, mapL, mapV, mem_get, mapL_cellsR, okL_cellsR, chM, rmM, tsM, trM, arM, bk0, insL', List.take_zero, List.foldl_nil]), (by first | exact rfl | exact own2_dist rfl rfl), (by simp only [slotsP, okV, okL, mapV, mapL, and_true, true_and, List.length_cons, List.length_nil, List.length_append, List.length_map, Nat.reduceAdd, Nat.reduceLT, chM, rmM, tsM, trM, arM, bk0, insL', List.take_zero, List.foldl_nil]; repeat' (first | exact rfl | refine ⟨?_, ?_⟩ | exact lk_m rfl (hmp _ rfl) | exact lk_m rfl (hmp2 _ rfl) | exact hok _ (Nat.le_of_ble_eq_true rfl) | exact hok2 _ (Nat.le_of_ble_eq_true rfl) | exact lk_i rfl (by omega) | exact lk_sl rfl (by omega) (by omega) (by omega) | decide | omega))⟩)⟩
    · rintro _ -
      generalize insL' most u ([] : List Rn) = q at *
      simp only [chM, rmM, tsM, trM, arM, bk0, List.cons_append, List.nil_append]
      refine WS.pseq rfl ?_
      refine WS.pregion rfl ?_
      refine WS.po (tb := tb) rfl rfl rfl rfl rfl ?_
      refine WS.pend rfl ?_
      refine WS.pret rfl ⟨.inr rfl, _, rfl, ?_⟩
      exact ⟨_, rfl, [0,1,2,3,4,5], chM cap most q (bk0 ([] : List Rn)) (bk0 ([] : List Rn)), .i .i64 0, ⟨rfl, rfl, (by simp [viewP, okL, okV, mapL, mapV, mem_get, mapL_cellsR, okL_cellsR, chM, rmM, tsM, trM, arM, bk0]), rfl⟩, rfl, trivial, rfl, rfl⟩
theorem change_01 (cap most : Nat) (s : TS) (f1 : Rn) (fresh : List Rn) (h : TOk most s) (hm : most ≤ 512) (ho : ([] : List Rn).length ≤ 600) (hf : (f1 :: fresh).length ≤ 600) (C : Chg most s ([] : List Rn) (f1 :: fresh)) :
    FM Try.prog 33 [.p (some (3,0)), slP 4 ([] : List Rn), slP 5 (f1 :: fresh)] (chM cap most s (bk0 ([] : List Rn)) (bk0 (f1 :: fresh))) (fun v M' => v = .i .i64 0 ∧ M' = chM cap most (insL' most (delL s ([] : List Rn)) (f1 :: fresh)) (bk0 ([] : List Rn)) (bk0 (f1 :: fresh))) := by
  have L := tlen_walk s.ps s.fr s.n s.T.id s.n
  have hle := h.le
  have C1 := C.fits
  have C2 := C.gone
  have C3 := C.come
  simp only [List.length_cons, List.length_nil] at ho hf C1 C2
  refine FM.pbodyV (tb := tb) (fn := Try.f33) rfl rfl ?_
  simp only [argS, Nat.reduceAdd, chM, rmM, tsM, trM, arM, bk0, slP, List.length_cons, List.length_nil, List.cons_append, List.nil_append]
  refine WS.pseq rfl ?_
  refine WS.pregion rfl ?_
  refine WS.po (tb := tb) rfl rfl rfl rfl rfl ?_
  refine WS.pend rfl ?_
  refine WS.pseq rfl ?_
  refine WS.pseq rfl ?_
  refine WS.pdrawQ (tb := tb) [0,1,2] L (by exact rfl) (by kernel_rfl) rfl (by kernel_rfl) (by kernel_rfl) (by (try simp only [mapL, mapV, ll]) <;> exact rfl) (by simp [okL, okV, trR, arR]) (by simp [embP, okL, okV, mapL, mapV, lockH, mem_next, mem_get, mem_ro, mapL_cellsR, okL_cellsR, trR, arR] <;> simp [LH.get, mem, memT, T.get, T.put, T.setF]; fail_if_success exfalso) rfl (by first | trivial | simp [okV, okL]) (fun _ => ?_)
  refine WD.p (tb := tb) rfl rfl rfl rfl rfl ?_
  refine WD.p (tb := tb) rfl rfl rfl rfl rfl ?_
  refine WD.pP (tb := tb) rfl rfl rfl rfl rfl (by simp only [nl, nz, Nat.reduceAdd, Nat.reduceMul, Int.reduceToNat]; exact rfl) ?_
  refine WD.r (tb := tb) rfl rfl rfl rfl rfl ?_
  refine WD.r (tb := tb) rfl rfl rfl rfl (evQ_call rfl rfl rfl rfl rfl) ?_
  refine WD.p (tb := tb) rfl rfl rfl rfl rfl ?_
  refine WD.p (tb := tb) rfl rfl rfl rfl rfl ?_
  refine WD.pW (tb := tb) rfl rfl rfl rfl rfl (by simp only [lo]; omega) (by simp only [Am.hi]; omega) ?_
  refine WD.p (tb := tb) rfl rfl rfl rfl rfl ?_
  refine WD.p (tb := tb) rfl rfl rfl rfl rfl ?_
  refine WD.pW (tb := tb) rfl rfl rfl rfl rfl (by simp only [lo]; omega) (by simp only [Am.hi]; omega) ?_
  refine WD.p (tb := tb) rfl rfl rfl rfl rfl ?_
  refine WD.p (tb := tb) rfl rfl rfl rfl rfl ?_
  refine WD.pP (tb := tb) rfl rfl rfl rfl rfl (by simp only [nl, nz, Nat.reduceAdd, Nat.reduceMul, Int.reduceToNat]; exact rfl) ?_
  refine WD.r (tb := tb) rfl rfl rfl rfl rfl ?_
  refine WD.pDF (tb := tb) rfl rfl rfl rfl rfl (by omega) ?_
  refine WD.fin rfl ?_
  refine WS.pcondF rfl rfl ?_
  refine WS.pskip rfl ?_
  refine WS.pseq rfl ?_
  refine WS.pseq rfl ?_
  refine WS.pregion rfl ?_
  refine WS.po (tb := tb) rfl rfl rfl rfl rfl ?_
  refine WS.po (tb := tb) rfl rfl rfl rfl rfl ?_
  refine WS.po (tb := tb) rfl rfl rfl rfl rfl ?_
  refine WS.pend rfl ?_
  refine WS.pblock rfl ?_
  refine WS.ploopI (σ := Nat) (τ := Unit) (fun i => [(0, .p (some (3,0))), (2, .sl (some (5,0)) (fresh.length + 1) (fresh.length + 1) true), (28, .sl none 0 0 false), (29, .i .i64 0), (30, .i .i64 i)]) (fun i => chM cap most (delL s (([] : List Rn).take i)) (bk0 ([] : List Rn)) (bk0 (f1 :: fresh))) (fun i => i ≤ 0) (fun i => 0 - i)
    (fun _ => [(0, .p (some (3,0))), (2, .sl (some (5,0)) (fresh.length + 1) (fresh.length + 1) true)]) (fun _ => chM cap most (delL s ([] : List Rn)) (bk0 ([] : List Rn)) (bk0 (f1 :: fresh))) (fun _ => True) 0 [0,1,2,3,4,5] 0 rfl (Nat.zero_le _) ⟨rfl, rfl, (by simp [viewP, okL, okV, mapL, mapV, mem_get, mapL_cellsR, okL_cellsR, chM, rmM, tsM, trM, arM, bk0, delL, List.take_zero, List.foldl_nil]), (by first | exact rfl | exact own2_dist rfl rfl), (by simp only [slotsP, okV, okL, mapV, mapL, and_true, true_and, List.length_cons, List.length_nil, List.length_append, List.length_map, Nat.reduceAdd, Nat.reduceLT, chM, rmM, tsM, trM, arM, bk0, delL, List.take_zero, List.foldl_nil]; repeat' (first | exact rfl | refine ⟨?_, ?_⟩ | exact lk_m rfl (hmp _ rfl) | exact lk_m rfl (hmp2 _ rfl) | exact hok _ (Nat.le_of_ble_eq_true rfl) | exact hok2 _ (Nat.le_of_ble_eq_true rfl) | exact lk_i rfl (by omega) | exact lk_sl rfl (by omega) (by omega) (by omega) | decide | omega))⟩ rfl ?_ ?_
  · intro i hi
    simp only [chM, rmM, tsM, trM, arM, bk0, List.cons_append, List.nil_append]
    obtain rfl : i = 0 := by omega
    refine WS.pseq rfl ?_
    refine WS.pregion rfl ?_
    refine WS.poB (tb := tb) false rfl rfl rfl rfl rfl rfl ?_
    refine WS.pend rfl ?_
    refine WS.pseq rfl ?_
    refine WS.pcondF rfl rfl ?_
    refine WS.pout rfl rfl ?_
    exact ⟨rfl, (), trivial, (SeenBy.seen (v := [0,1,2,3,4,5]) ⟨rfl, rfl, (by simp [viewP, okL, okV, mapL, mapV, mem_get, mapL_cellsR, okL_cellsR, chM, rmM, tsM, trM, arM, bk0, delL, List.take_zero, List.foldl_nil]), (by first | exact rfl | exact own2_dist rfl rfl), (by simp only [slotsP, okV, okL, mapV, mapL, and_true, true_and, List.length_cons, List.length_nil, List.length_append, List.length_map, Nat.reduceAdd, Nat.reduceLT, chM, rmM, tsM, trM, arM, bk0, delL, List.take_zero, List.foldl_nil]; repeat' (first | exact rfl | refine ⟨?_, ?_⟩ | exact lk_m rfl (hmp _ rfl) | exact lk_m rfl (hmp2 _ rfl) | exact hok _ (Nat.le_of_ble_eq_true rfl) | exact hok2 _ (Nat.le_of_ble_eq_true rfl) | exact lk_i rfl (by omega) | exact lk_sl rfl (by omega) (by omega) (by omega) | decide | omega))⟩)⟩
  · rintro _ -
    have hd := delL_ok ([] : List Rn) h
    generalize hu : delL s ([] : List Rn) = u at *
    simp only [chM, rmM, tsM, trM, arM, bk0, List.cons_append, List.nil_append]
    refine WS.pseq rfl ?_
    refine WS.pseq rfl ?_
    refine WS.pregion rfl ?_
    refine WS.po (tb := tb) rfl rfl rfl rfl rfl ?_
    refine WS.po (tb := tb) rfl rfl rfl rfl rfl ?_
    refine WS.po (tb := tb) rfl rfl rfl rfl rfl ?_
    refine WS.pend rfl ?_
    refine WS.pblock rfl ?_
    refine WS.ploopI (σ := Nat) (τ := Unit) (fun i => [(0, .p (some (3,0))), (42, .sl (some (5,0)) (fresh.length + 1) (fresh.length + 1) true), (43, .i .i64 ((fresh.length : Int) + 1)), (44, .i .i64 i)]) (fun i => chM cap most (insL' most u ((f1 :: fresh).take i)) (bk0 ([] : List Rn)) (bk0 (f1 :: fresh))) (fun i => i ≤ (fresh.length + 1)) (fun i => (fresh.length + 1) - i)
      (fun _ => []) (fun _ => chM cap most (insL' most u (f1 :: fresh)) (bk0 ([] : List Rn)) (bk0 (f1 :: fresh))) (fun _ => True) 2 [0,1,2,3,4,5] 0 rfl (Nat.zero_le _) ⟨rfl, rfl, (by simp [viewP, okL, okV, mapL, mapV, mem_get, mapL_cellsR, okL_cellsR, chM, rmM, tsM, trM, arM, bk0, insL', List.take_zero, List.foldl_nil]), (by first | exact rfl | exact own2_dist rfl rfl), (by simp only [slotsP, okV, okL, mapV, mapL, and_true, true_and, List.length_cons, List.length_nil, List.length_append, List.length_map, Nat.reduceAdd, Nat.reduceLT, chM, rmM, tsM, trM, arM, bk0, insL', List.take_zero, List.foldl_nil]; repeat' (first | exact rfl | refine ⟨?_, ?_⟩ | exact lk_m rfl (hmp _ rfl) | exact lk_m rfl (hmp2 _ rfl) | exact hok _ (Nat.le_of_ble_eq_true rfl) | exact hok2 _ (Nat.le_of_ble_eq_true rfl) | exact lk_i rfl (by omega) | exact lk_sl rfl (by omega) (by omega) (by omega) | decide | omega))⟩ rfl ?_ ?_
    · intro i hi
      simp only [chM, rmM, tsM, trM, arM, bk0, List.cons_append, List.nil_append]
      by_cases hlt : i < fresh.length + 1
      · obtain ⟨r, hr⟩ : ∃ r, (f1 :: fresh)[i]? = some r := ⟨_, List.getElem?_eq_getElem (by simp; omega)⟩
        have e : insL' most u ((f1 :: fresh).take (i + 1)) = insK most (insL' most u ((f1 :: fresh).take i)) r.a r.b r.c := by rw [take_succ' hr, insL_app']; rfl
        rw [List.take_succ_cons] at e
        have D := ins_any r.a r.b r.c (insL_ok ((f1 :: fresh).take i) hd) hm
        rw [C3 i (by simp; omega) r hr] at D
        generalize insL' most u ((f1 :: fresh).take i) = q at *
        refine WS.pseq rfl ?_
        refine WS.pregion rfl ?_
        refine WS.poDT (tb := tb) rfl rfl rfl rfl rfl (by omega) ?_
        refine WS.pend rfl ?_
        refine WS.pseq rfl ?_
        refine WS.pcondT rfl rfl ?_
        refine WS.pskip rfl ?_
        refine WS.pseq rfl ?_
        refine WS.pblock rfl ?_
        refine WS.pseq rfl ?_
        refine WS.pregion rfl ?_
        refine WS.poP (tb := tb) rfl rfl rfl rfl (step_P (evP_index rfl rfl rfl rfl rfl rfl (by omega))) (by simp only [Nat.zero_add, Nat.add_zero, Nat.reduceAdd, Nat.reduceMul, Nat.add_assoc, Nat.mul_one]; exact rfl) ?_
        refine WS.poA (tb := tb) rfl rfl rfl rfl (step_R rfl (evR_loads rfl rfl rfl rfl rfl (by exact (cellsR_part0 (R := rwRn) hr (by exact Nat.le_of_ble_eq_true rfl))) (by exact rfl))) (by simp only [List.drop_zero, List.drop_succ_cons, List.take_succ_cons, List.take_zero, rwPl, rwRn, rwVw]; exact rfl) ?_
        refine WS.po (tb := tb) rfl rfl rfl rfl rfl ?_; rw [new_mem]; simp only [ll, vcells, mem_next, Nat.zero_add, Nat.zero_mul, Nat.reduceAdd, reps, setL, Nat.reduceMul]
        refine WS.po0 (tb := tb) rfl rfl rfl rfl (step_H rfl rfl (evH_store rfl rfl rfl rfl rfl (Nat.zero_le _) rfl (by simp [vcells]) (Nat.le_of_ble_eq_true rfl))) ?_; rw [upd_mem _ rfl]; simp only [vcells, setL, ll]
        refine WS.pend rfl ?_
        refine WS.pseq rfl ?_
        refine WS.pdrawE (tb := tb) [0,1,2] D (by exact rfl) (by kernel_rfl) rfl (by kernel_rfl) (by kernel_rfl) (by (try simp only [mapL, mapV, ll]) <;> exact rfl) (by simp [okL, okV, tsM, trM, arM]; fail_if_success exfalso) rfl (by simp [embP, okL, okV, mapL, mapV, mem_next, mem_get, mem_ro, mapL_cellsR, okL_cellsR, tsM, trM, arM]; fail_if_success exfalso) rfl ?_
        refine WD.p (tb := tb) rfl rfl rfl rfl rfl ?_
        refine WD.p (tb := tb) rfl rfl rfl rfl rfl ?_
        refine WD.pP (tb := tb) rfl rfl rfl rfl rfl (by simp only [nl, nz, Nat.reduceAdd, Nat.reduceMul, Int.reduceToNat]; exact rfl) ?_
        refine WD.r (tb := tb) rfl rfl rfl rfl rfl ?_
        refine WD.rA (tb := tb) rfl rfl rfl rfl rfl (by simp only [List.drop_zero, List.drop_succ_cons, List.take_succ_cons, List.take_zero, rwPl, rwRn, rwVw]; exact rfl) ?_
        refine WD.ecall (tb := tb) rfl rfl rfl rfl rfl rfl rfl rfl rfl ?_; simp only [plugL, setsL, newsL, isOwn, ownB, over, mapL, mapV, ll, Nat.reduceAdd, Nat.reduceLT, Nat.zero_add, if_true, if_false, Nat.reduceSub, reduceIte, mapL_cellsR, Nat.lt_irrefl, Nat.not_lt_zero, Nat.zero_lt_succ, Nat.lt_add_one, tsM, trM, arM]
        refine WD.p (tb := tb) rfl rfl rfl rfl rfl ?_
        refine WD.fin rfl ?_
        refine WS.pseq rfl ?_
        refine WS.pregion rfl ?_
        refine WS.po (tb := tb) rfl rfl rfl rfl rfl ?_
        refine WS.poB (tb := tb) false rfl rfl rfl rfl rfl rfl ?_
        refine WS.pend rfl ?_
        refine WS.pcondF rfl rfl ?_
        refine WS.pskip rfl ?_
        refine WS.pregion rfl ?_
        refine WS.poW (tb := tb) rfl rfl rfl rfl rfl (by simp only [lo]; omega) (by simp only [Am.hi]; omega) ?_
        refine WS.po (tb := tb) rfl rfl rfl rfl rfl ?_
        refine WS.pend rfl ?_
        refine WS.nil ?_
        exact ⟨i + 1, by omega, by omega, (SeenBy.seen (v := [0,1,2,3,4,5]) ⟨rfl, rfl, (by simp [viewP, okL, okV, mapL, mapV, mem_get, mapL_cellsR, okL_cellsR, chM, rmM, tsM, trM, arM, bk0, e]), (by first | exact rfl | exact own2_dist rfl rfl), (by simp only [slotsP, okV, okL, mapV, mapL, and_true, true_and, List.length_cons, List.length_nil, List.length_append, List.length_map, Nat.reduceAdd, Nat.reduceLT, chM, rmM, tsM, trM, arM, bk0, e]; repeat' (first | exact rfl | refine ⟨?_, ?_⟩ | exact lk_m rfl (hmp _ rfl) | exact lk_m rfl (hmp2 _ rfl) | exact hok _ (Nat.le_of_ble_eq_true rfl) | exact hok2 _ (Nat.le_of_ble_eq_true rfl) | exact lk_i rfl (by omega) | exact lk_sl rfl (by omega) (by omega) (by omega) | decide | omega))⟩)⟩
      · obtain rfl : i = fresh.length + 1 := by omega
        have e : (f1 :: fresh).take (fresh.length + 1) = f1 :: fresh := List.take_of_length_le (Nat.le_refl _)
        rw [e]
        refine WS.pseq rfl ?_
        refine WS.pregion rfl ?_
        refine WS.poDF (tb := tb) rfl rfl rfl rfl rfl (by omega) ?_
        refine WS.pend rfl ?_
        refine WS.pseq rfl ?_
        refine WS.pcondF rfl rfl ?_
        refine WS.pout rfl rfl ?_
        exact ⟨rfl, (), trivial, (SeenBy.seen (v := [0,1,2,3,4,5]) ⟨rfl, rfl, (by simp [viewP, okL, okV, mapL, mapV, mem_get, mapL_cellsR, okL_cellsR, chM, rmM, tsM, trM, arM, bk0]), (by first | exact rfl | exact own2_dist rfl rfl), (by simp only [slotsP, okV, okL, mapV, mapL, and_true, true_and, List.length_cons, List.length_nil, List.length_append, List.length_map, Nat.reduceAdd, Nat.reduceLT, chM, rmM, tsM, trM, arM, bk0]; repeat' (first | exact rfl | refine ⟨?_, ?_⟩ | exact lk_m rfl (hmp _ rfl) | exact lk_m rfl (hmp2 _ rfl) | exact hok _ (Nat.le_of_ble_eq_true rfl) | exact hok2 _ (Nat.le_of_ble_eq_true rfl) | exact lk_i rfl (by omega) | exact lk_sl rfl (by omega) (by omega) (by omega) | decide | omega))⟩)⟩
    · rintro _ -
      generalize insL' most u (f1 :: fresh) = q at *
      simp only [chM, rmM, tsM, trM, arM, bk0, List.cons_append, List.nil_append]
      refine WS.pseq rfl ?_
      refine WS.pregion rfl ?_
      refine WS.po (tb := tb) rfl rfl rfl rfl rfl ?_
      refine WS.pend rfl ?_
      refine WS.pret rfl ⟨.inr rfl, _, rfl, ?_⟩
      exact ⟨_, rfl, [0,1,2,3,4,5], chM cap most q (bk0 ([] : List Rn)) (bk0 (f1 :: fresh)), .i .i64 0, ⟨rfl, rfl, (by simp [viewP, okL, okV, mapL, mapV, mem_get, mapL_cellsR, okL_cellsR, chM, rmM, tsM, trM, arM, bk0]), rfl⟩, rfl, trivial, rfl, rfl⟩
theorem change_10 (cap most : Nat) (s : TS) (o1 : Rn) (old : List Rn) (h : TOk most s) (hm : most ≤ 512) (ho : (o1 :: old).length ≤ 600) (hf : ([] : List Rn).length ≤ 600) (C : Chg most s (o1 :: old) ([] : List Rn)) :
    FM Try.prog 33 [.p (some (3,0)), slP 4 (o1 :: old), slP 5 ([] : List Rn)] (chM cap most s (bk0 (o1 :: old)) (bk0 ([] : List Rn))) (fun v M' => v = .i .i64 0 ∧ M' = chM cap most (insL' most (delL s (o1 :: old)) ([] : List Rn)) (bk0 (o1 :: old)) (bk0 ([] : List Rn))) := by
  have L := tlen_walk s.ps s.fr s.n s.T.id s.n
  have hle := h.le
  have C1 := C.fits
  have C2 := C.gone
  have C3 := C.come
  simp only [List.length_cons, List.length_nil] at ho hf C1 C2
  refine FM.pbodyV (tb := tb) (fn := Try.f33) rfl rfl ?_
  simp only [argS, Nat.reduceAdd, chM, rmM, tsM, trM, arM, bk0, slP, List.length_cons, List.length_nil, List.cons_append, List.nil_append]
  refine WS.pseq rfl ?_
  refine WS.pregion rfl ?_
  refine WS.po (tb := tb) rfl rfl rfl rfl rfl ?_
  refine WS.pend rfl ?_
  refine WS.pseq rfl ?_
  refine WS.pseq rfl ?_
  refine WS.pdrawQ (tb := tb) [0,1,2] L (by exact rfl) (by kernel_rfl) rfl (by kernel_rfl) (by kernel_rfl) (by (try simp only [mapL, mapV, ll]) <;> exact rfl) (by simp [okL, okV, trR, arR]) (by simp [embP, okL, okV, mapL, mapV, lockH, mem_next, mem_get, mem_ro, mapL_cellsR, okL_cellsR, trR, arR] <;> simp [LH.get, mem, memT, T.get, T.put, T.setF]; fail_if_success exfalso) rfl (by first | trivial | simp [okV, okL]) (fun _ => ?_)
  refine WD.p (tb := tb) rfl rfl rfl rfl rfl ?_
  refine WD.p (tb := tb) rfl rfl rfl rfl rfl ?_
  refine WD.pP (tb := tb) rfl rfl rfl rfl rfl (by simp only [nl, nz, Nat.reduceAdd, Nat.reduceMul, Int.reduceToNat]; exact rfl) ?_
  refine WD.r (tb := tb) rfl rfl rfl rfl rfl ?_
  refine WD.r (tb := tb) rfl rfl rfl rfl (evQ_call rfl rfl rfl rfl rfl) ?_
  refine WD.p (tb := tb) rfl rfl rfl rfl rfl ?_
  refine WD.p (tb := tb) rfl rfl rfl rfl rfl ?_
  refine WD.pW (tb := tb) rfl rfl rfl rfl rfl (by simp only [lo]; omega) (by simp only [Am.hi]; omega) ?_
  refine WD.p (tb := tb) rfl rfl rfl rfl rfl ?_
  refine WD.p (tb := tb) rfl rfl rfl rfl rfl ?_
  refine WD.pW (tb := tb) rfl rfl rfl rfl rfl (by simp only [lo]; omega) (by simp only [Am.hi]; omega) ?_
  refine WD.p (tb := tb) rfl rfl rfl rfl rfl ?_
  refine WD.p (tb := tb) rfl rfl rfl rfl rfl ?_
  refine WD.pP (tb := tb) rfl rfl rfl rfl rfl (by simp only [nl, nz, Nat.reduceAdd, Nat.reduceMul, Int.reduceToNat]; exact rfl) ?_
  refine WD.r (tb := tb) rfl rfl rfl rfl rfl ?_
  refine WD.pDF (tb := tb) rfl rfl rfl rfl rfl (by omega) ?_
  refine WD.fin rfl ?_
  refine WS.pcondF rfl rfl ?_
  refine WS.pskip rfl ?_
  refine WS.pseq rfl ?_
  refine WS.pseq rfl ?_
  refine WS.pregion rfl ?_
  refine WS.po (tb := tb) rfl rfl rfl rfl rfl ?_
  refine WS.po (tb := tb) rfl rfl rfl rfl rfl ?_
  refine WS.po (tb := tb) rfl rfl rfl rfl rfl ?_
  refine WS.pend rfl ?_
  refine WS.pblock rfl ?_
  refine WS.ploopI (σ := Nat) (τ := Unit) (fun i => [(0, .p (some (3,0))), (2, .sl none 0 0 false), (28, .sl (some (4,0)) (old.length + 1) (old.length + 1) true), (29, .i .i64 ((old.length : Int) + 1)), (30, .i .i64 i)]) (fun i => chM cap most (delL s ((o1 :: old).take i)) (bk0 (o1 :: old)) (bk0 ([] : List Rn))) (fun i => i ≤ (old.length + 1)) (fun i => (old.length + 1) - i)
    (fun _ => [(0, .p (some (3,0))), (2, .sl none 0 0 false)]) (fun _ => chM cap most (delL s (o1 :: old)) (bk0 (o1 :: old)) (bk0 ([] : List Rn))) (fun _ => True) 0 [0,1,2,3,4,5] 0 rfl (Nat.zero_le _) ⟨rfl, rfl, (by simp [viewP, okL, okV, mapL, mapV, mem_get, mapL_cellsR, okL_cellsR, chM, rmM, tsM, trM, arM, bk0, delL, List.take_zero, List.foldl_nil]), (by first | exact rfl | exact own2_dist rfl rfl), (by simp only [slotsP, okV, okL, mapV, mapL, and_true, true_and, List.length_cons, List.length_nil, List.length_append, List.length_map, Nat.reduceAdd, Nat.reduceLT, chM, rmM, tsM, trM, arM, bk0, delL, List.take_zero, List.foldl_nil]; repeat' (first | exact rfl | refine ⟨?_, ?_⟩ | exact lk_m rfl (hmp _ rfl) | exact lk_m rfl (hmp2 _ rfl) | exact hok _ (Nat.le_of_ble_eq_true rfl) | exact hok2 _ (Nat.le_of_ble_eq_true rfl) | exact lk_i rfl (by omega) | exact lk_sl rfl (by omega) (by omega) (by omega) | decide | omega))⟩ rfl ?_ ?_
  · intro i hi
    simp only [chM, rmM, tsM, trM, arM, bk0, List.cons_append, List.nil_append]
    by_cases hlt : i < old.length + 1
    · obtain ⟨r, hr⟩ : ∃ r, (o1 :: old)[i]? = some r := ⟨_, List.getElem?_eq_getElem (by simp; omega)⟩
      have e : delL s ((o1 :: old).take (i + 1)) = delK (delL s ((o1 :: old).take i)) r.a := by rw [take_succ' hr, delL_app]; rfl
      rw [List.take_succ_cons] at e
      have D := del_any r.a (delL_ok ((o1 :: old).take i) h) hm
      generalize delL s ((o1 :: old).take i) = u at *
      refine WS.pseq rfl ?_
      refine WS.pregion rfl ?_
      refine WS.poDT (tb := tb) rfl rfl rfl rfl rfl (by omega) ?_
      refine WS.pend rfl ?_
      refine WS.pseq rfl ?_
      refine WS.pcondT rfl rfl ?_
      refine WS.pskip rfl ?_
      refine WS.pseq rfl ?_
      refine WS.pblock rfl ?_
      refine WS.pseq rfl ?_
      refine WS.pregion rfl ?_
      refine WS.poP (tb := tb) rfl rfl rfl rfl (step_P (evP_index rfl rfl rfl rfl rfl rfl (by omega))) (by simp only [Nat.zero_add, Nat.add_zero, Nat.reduceAdd, Nat.reduceMul, Nat.add_assoc, Nat.mul_one]; exact rfl) ?_
      refine WS.poA (tb := tb) rfl rfl rfl rfl (step_R rfl (evR_loads rfl rfl rfl rfl rfl (by exact (cellsR_part0 (R := rwRn) hr (by exact Nat.le_of_ble_eq_true rfl))) (by exact rfl))) (by simp only [List.drop_zero, List.drop_succ_cons, List.take_succ_cons, List.take_zero, rwPl, rwRn, rwVw]; exact rfl) ?_
      refine WS.po (tb := tb) rfl rfl rfl rfl rfl ?_; rw [new_mem]; simp only [ll, vcells, mem_next, Nat.zero_add, Nat.zero_mul, Nat.reduceAdd, reps, setL, Nat.reduceMul]
      refine WS.po0 (tb := tb) rfl rfl rfl rfl (step_H rfl rfl (evH_store rfl rfl rfl rfl rfl (Nat.zero_le _) rfl (by simp [vcells]) (Nat.le_of_ble_eq_true rfl))) ?_; rw [upd_mem _ rfl]; simp only [vcells, setL, ll]
      refine WS.pend rfl ?_
      refine WS.pdrawE (tb := tb) [0,1,2] D (by exact rfl) (by kernel_rfl) rfl (by kernel_rfl) (by kernel_rfl) (by (try simp only [mapL, mapV, ll]) <;> exact rfl) (by simp [okL, okV, tsM, trM, arM]; fail_if_success exfalso) rfl (by simp [embP, okL, okV, mapL, mapV, mem_next, mem_get, mem_ro, mapL_cellsR, okL_cellsR, tsM, trM, arM]; fail_if_success exfalso) rfl ?_
      refine WD.p (tb := tb) rfl rfl rfl rfl rfl ?_
      refine WD.p (tb := tb) rfl rfl rfl rfl rfl ?_
      refine WD.pP (tb := tb) rfl rfl rfl rfl rfl (by simp only [nl, nz, Nat.reduceAdd, Nat.reduceMul, Int.reduceToNat]; exact rfl) ?_
      refine WD.r (tb := tb) rfl rfl rfl rfl rfl ?_
      refine WD.pP (tb := tb) rfl rfl rfl rfl rfl (by simp only [nl, nz, Nat.reduceAdd, Nat.reduceMul, Int.reduceToNat]; exact rfl) ?_
      refine WD.r (tb := tb) rfl rfl rfl rfl rfl ?_
      refine WD.ecall (tb := tb) rfl rfl rfl rfl rfl rfl rfl rfl rfl ?_; simp only [plugL, setsL, newsL, isOwn, ownB, over, mapL, mapV, ll, Nat.reduceAdd, Nat.reduceLT, Nat.zero_add, if_true, if_false, Nat.reduceSub, reduceIte, mapL_cellsR, Nat.lt_irrefl, Nat.not_lt_zero, Nat.zero_lt_succ, Nat.lt_add_one, tsM, trM, arM]
      refine WD.fin rfl ?_
      refine WS.pregion rfl ?_
      refine WS.poW (tb := tb) rfl rfl rfl rfl rfl (by simp only [lo]; omega) (by simp only [Am.hi]; omega) ?_
      refine WS.po (tb := tb) rfl rfl rfl rfl rfl ?_
      refine WS.pend rfl ?_
      refine WS.nil ?_
      exact ⟨i + 1, by omega, by omega, (SeenBy.seen (v := [0,1,2,3,4,5]) ⟨rfl, rfl, (by simp [viewP, okL, okV, mapL, mapV, mem_get, mapL_cellsR, okL_cellsR, chM, rmM, tsM, trM, arM, bk0, e]), (by first | exact rfl | exact own2_dist rfl rfl), (by simp only [slotsP, okV, okL, mapV, mapL, and_true, true_and, List.length_cons, List.length_nil, List.length_append, List.length_map, Nat.reduceAdd, Nat.reduceLT, chM, rmM, tsM, trM, arM, bk0, e]; repeat' (first | exact rfl | refine ⟨?_, ?_⟩ | exact lk_m rfl (hmp _ rfl) | exact lk_m rfl (hmp2 _ rfl) | exact hok _ (Nat.le_of_ble_eq_true rfl) | exact hok2 _ (Nat.le_of_ble_eq_true rfl) | exact lk_i rfl (by omega) | exact lk_sl rfl (by omega) (by omega) (by omega) | decide | omega))⟩)⟩
    · obtain rfl : i = old.length + 1 := by omega
      have e : (o1 :: old).take (old.length + 1) = o1 :: old := List.take_of_length_le (Nat.le_refl _)
      rw [e]
      refine WS.pseq rfl ?_
      refine WS.pregion rfl ?_
      refine WS.poDF (tb := tb) rfl rfl rfl rfl rfl (by omega) ?_
      refine WS.pend rfl ?_
      refine WS.pseq rfl ?_
      refine WS.pcondF rfl rfl ?_
      refine WS.pout rfl rfl ?_
      exact ⟨rfl, (), trivial, (SeenBy.seen (v := [0,1,2,3,4,5]) ⟨rfl, rfl, (by simp [viewP, okL, okV, mapL, mapV, mem_get, mapL_cellsR, okL_cellsR, chM, rmM, tsM, trM, arM, bk0]), (by first | exact rfl | exact own2_dist rfl rfl), (by simp only [slotsP, okV, okL, mapV, mapL, and_true, true_and, List.length_cons, List.length_nil, List.length_append, List.length_map, Nat.reduceAdd, Nat.reduceLT, chM, rmM, tsM, trM, arM, bk0]; repeat' (first | exact rfl | refine ⟨?_, ?_⟩ | exact lk_m rfl (hmp _ rfl) | exact lk_m rfl (hmp2 _ rfl) | exact hok _ (Nat.le_of_ble_eq_true rfl) | exact hok2 _ (Nat.le_of_ble_eq_true rfl) | exact lk_i rfl (by omega) | exact lk_sl rfl (by omega) (by omega) (by omega) | decide | omega))⟩)⟩
  · rintro _ -
    have hd := delL_ok (o1 :: old) h
    generalize hu : delL s (o1 :: old) = u at *
    simp only [chM, rmM, tsM, trM, arM, bk0, List.cons_append, List.nil_append]
    refine WS.pseq rfl ?_
    refine WS.pseq rfl ?_
    refine WS.pregion rfl ?_
    refine WS.po (tb := tb) rfl rfl rfl rfl rfl ?_
    refine WS.po (tb := tb) rfl rfl rfl rfl rfl ?_
    refine WS.po (tb := tb) rfl rfl rfl rfl rfl ?_
    refine WS.pend rfl ?_
    refine WS.pblock rfl ?_
    refine WS.ploopI (σ := Nat) (τ := Unit) (fun i => [(0, .p (some (3,0))), (42, .sl none 0 0 false), (43, .i .i64 0), (44, .i .i64 i)]) (fun i => chM cap most (insL' most u (([] : List Rn).take i)) (bk0 (o1 :: old)) (bk0 ([] : List Rn))) (fun i => i ≤ 0) (fun i => 0 - i)
      (fun _ => []) (fun _ => chM cap most (insL' most u ([] : List Rn)) (bk0 (o1 :: old)) (bk0 ([] : List Rn))) (fun _ => True) 2 [0,1,2,3,4,5] 0 rfl (Nat.zero_le _) ⟨rfl, rfl, (by simp [viewP, okL, okV, mapL, mapV, mem_get, mapL_cellsR, okL_cellsR, chM, rmM, tsM, trM, arM, bk0, insL', List.take_zero, List.foldl_nil]), (by first | exact rfl | exact own2_dist rfl rfl), (by simp only [slotsP, okV, okL, mapV, mapL, and_true, true_and, List.length_cons, List.length_nil, List.length_append, List.length_map, Nat.reduceAdd, Nat.reduceLT, chM, rmM, tsM, trM, arM, bk0, insL', List.take_zero, List.foldl_nil]; repeat' (first | exact rfl | refine ⟨?_, ?_⟩ | exact lk_m rfl (hmp _ rfl) | exact lk_m rfl (hmp2 _ rfl) | exact hok _ (Nat.le_of_ble_eq_true rfl) | exact hok2 _ (Nat.le_of_ble_eq_true rfl) | exact lk_i rfl (by omega) | exact lk_sl rfl (by omega) (by omega) (by omega) | decide | omega))⟩ rfl ?_ ?_
    · intro i hi
      simp only [chM, rmM, tsM, trM, arM, bk0, List.cons_append, List.nil_append]
      obtain rfl : i = 0 := by omega
      refine WS.pseq rfl ?_
      refine WS.pregion rfl ?_
      refine WS.poB (tb := tb) false rfl rfl rfl rfl rfl rfl ?_
      refine WS.pend rfl ?_
      refine WS.pseq rfl ?_
      refine WS.pcondF rfl rfl ?_
      refine WS.pout rfl rfl ?_
      exact ⟨rfl, (), trivial, (SeenBy.seen (v := [0,1,2,3,4,5]) ⟨rfl, rfl, (by simp [viewP, okL, okV, mapL, mapV, mem_get, mapL_cellsR, okL_cellsR, chM, rmM, tsM, trM, arM, bk0, insL', List.take_zero, List.foldl_nil]), (by first | exact rfl | exact own2_dist rfl rfl), (by simp only [slotsP, okV, okL, mapV, mapL, and_true, true_and, List.length_cons, List.length_nil, List.length_append, List.length_map, Nat.reduceAdd, Nat.reduceLT, chM, rmM, tsM, trM, arM, bk0, insL', List.take_zero, List.foldl_nil]; repeat' (first | exact rfl | refine ⟨?_, ?_⟩ | exact lk_m rfl (hmp _ rfl) | exact lk_m rfl (hmp2 _ rfl) | exact hok _ (Nat.le_of_ble_eq_true rfl) | exact hok2 _ (Nat.le_of_ble_eq_true rfl) | exact lk_i rfl (by omega) | exact lk_sl rfl (by omega) (by omega) (by omega) | decide | omega))⟩)⟩
    · rintro _ -
      generalize insL' most u ([] : List Rn) = q at *
      simp only [chM, rmM, tsM, trM, arM, bk0, List.cons_append, List.nil_append]
      refine WS.pseq rfl ?_
      refine WS.pregion rfl ?_
      refine WS.po (tb := tb) rfl rfl rfl rfl rfl ?_
      refine WS.pend rfl ?_
      refine WS.pret rfl ⟨.inr rfl, _, rfl, ?_⟩
      exact ⟨_, rfl, [0,1,2,3,4,5], chM cap most q (bk0 (o1 :: old)) (bk0 ([] : List Rn)), .i .i64 0, ⟨rfl, rfl, (by simp [viewP, okL, okV, mapL, mapV, mem_get, mapL_cellsR, okL_cellsR, chM, rmM, tsM, trM, arM, bk0]), rfl⟩, rfl, trivial, rfl, rfl⟩
theorem change_11 (cap most : Nat) (s : TS) (o1 : Rn) (old : List Rn) (f1 : Rn) (fresh : List Rn) (h : TOk most s) (hm : most ≤ 512) (ho : (o1 :: old).length ≤ 600) (hf : (f1 :: fresh).length ≤ 600) (C : Chg most s (o1 :: old) (f1 :: fresh)) :
    FM Try.prog 33 [.p (some (3,0)), slP 4 (o1 :: old), slP 5 (f1 :: fresh)] (chM cap most s (bk0 (o1 :: old)) (bk0 (f1 :: fresh))) (fun v M' => v = .i .i64 0 ∧ M' = chM cap most (insL' most (delL s (o1 :: old)) (f1 :: fresh)) (bk0 (o1 :: old)) (bk0 (f1 :: fresh))) := by
  have L := tlen_walk s.ps s.fr s.n s.T.id s.n
  have hle := h.le
  have C1 := C.fits
  have C2 := C.gone
  have C3 := C.come
  simp only [List.length_cons, List.length_nil] at ho hf C1 C2
  refine FM.pbodyV (tb := tb) (fn := Try.f33) rfl rfl ?_
  simp only [argS, Nat.reduceAdd, chM, rmM, tsM, trM, arM, bk0, slP, List.length_cons, List.length_nil, List.cons_append, List.nil_append]
  refine WS.pseq rfl ?_
  refine WS.pregion rfl ?_
  refine WS.po (tb := tb) rfl rfl rfl rfl rfl ?_
  refine WS.pend rfl ?_
  refine WS.pseq rfl ?_
  refine WS.pseq rfl ?_
  refine WS.pdrawQ (tb := tb) [0,1,2] L (by exact rfl) (by kernel_rfl) rfl (by kernel_rfl) (by kernel_rfl) (by (try simp only [mapL, mapV, ll]) <;> exact rfl) (by simp [okL, okV, trR, arR]) (by simp [embP, okL, okV, mapL, mapV, lockH, mem_next, mem_get, mem_ro, mapL_cellsR, okL_cellsR, trR, arR] <;> simp [LH.get, mem, memT, T.get, T.put, T.setF]; fail_if_success exfalso) rfl (by first | trivial | simp [okV, okL]) (fun _ => ?_)
  refine WD.p (tb := tb) rfl rfl rfl rfl rfl ?_
  refine WD.p (tb := tb) rfl rfl rfl rfl rfl ?_
  refine WD.pP (tb := tb) rfl rfl rfl rfl rfl (by simp only [nl, nz, Nat.reduceAdd, Nat.reduceMul, Int.reduceToNat]; exact rfl) ?_
  refine WD.r (tb := tb) rfl rfl rfl rfl rfl ?_
  refine WD.r (tb := tb) rfl rfl rfl rfl (evQ_call rfl rfl rfl rfl rfl) ?_
  refine WD.p (tb := tb) rfl rfl rfl rfl rfl ?_
  refine WD.p (tb := tb) rfl rfl rfl rfl rfl ?_
  refine WD.pW (tb := tb) rfl rfl rfl rfl rfl (by simp only [lo]; omega) (by simp only [Am.hi]; omega) ?_
  refine WD.p (tb := tb) rfl rfl rfl rfl rfl ?_
  refine WD.p (tb := tb) rfl rfl rfl rfl rfl ?_
  refine WD.pW (tb := tb) rfl rfl rfl rfl rfl (by simp only [lo]; omega) (by simp only [Am.hi]; omega) ?_
  refine WD.p (tb := tb) rfl rfl rfl rfl rfl ?_
  refine WD.p (tb := tb) rfl rfl rfl rfl rfl ?_
  refine WD.pP (tb := tb) rfl rfl rfl rfl rfl (by simp only [nl, nz, Nat.reduceAdd, Nat.reduceMul, Int.reduceToNat]; exact rfl) ?_
  refine WD.r (tb := tb) rfl rfl rfl rfl rfl ?_
  refine WD.pDF (tb := tb) rfl rfl rfl rfl rfl (by omega) ?_
  refine WD.fin rfl ?_
  refine WS.pcondF rfl rfl ?_
  refine WS.pskip rfl ?_
  refine WS.pseq rfl ?_
  refine WS.pseq rfl ?_
  refine WS.pregion rfl ?_
  refine WS.po (tb := tb) rfl rfl rfl rfl rfl ?_
  refine WS.po (tb := tb) rfl rfl rfl rfl rfl ?_
  refine WS.po (tb := tb) rfl rfl rfl rfl rfl ?_
  refine WS.pend rfl ?_
  refine WS.pblock rfl ?_
  refine WS.ploopI (σ := Nat) (τ := Unit) (fun i => [(0, .p (some (3,0))), (2, .sl (some (5,0)) (fresh.length + 1) (fresh.length + 1) true), (28, .sl (some (4,0)) (old.length + 1) (old.length + 1) true), (29, .i .i64 ((old.length : Int) + 1)), (30, .i .i64 i)]) (fun i => chM cap most (delL s ((o1 :: old).take i)) (bk0 (o1 :: old)) (bk0 (f1 :: fresh))) (fun i => i ≤ (old.length + 1)) (fun i => (old.length + 1) - i)
    (fun _ => [(0, .p (some (3,0))), (2, .sl (some (5,0)) (fresh.length + 1) (fresh.length + 1) true)]) (fun _ => chM cap most (delL s (o1 :: old)) (bk0 (o1 :: old)) (bk0 (f1 :: fresh))) (fun _ => True) 0 [0,1,2,3,4,5] 0 rfl (Nat.zero_le _) ⟨rfl, rfl, (by simp [viewP, okL, okV, mapL, mapV, mem_get, mapL_cellsR, okL_cellsR, chM, rmM, tsM, trM, arM, bk0, delL, List.take_zero, List.foldl_nil]), (by first | exact rfl | exact own2_dist rfl rfl), (by simp only [slotsP, okV, okL, mapV, mapL, and_true, true_and, List.length_cons, List.length_nil, List.length_append, List.length_map, Nat.reduceAdd, Nat.reduceLT, chM, rmM, tsM, trM, arM, bk0, delL, List.take_zero, List.foldl_nil]; repeat' (first | exact rfl | refine ⟨?_, ?_⟩ | exact lk_m rfl (hmp _ rfl) | exact lk_m rfl (hmp2 _ rfl) | exact hok _ (Nat.le_of_ble_eq_true rfl) | exact hok2 _ (Nat.le_of_ble_eq_true rfl) | exact lk_i rfl (by omega) | exact lk_sl rfl (by omega) (by omega) (by omega) | decide | omega))⟩ rfl ?_ ?_
  · intro i hi
    simp only [chM, rmM, tsM, trM, arM, bk0, List.cons_append, List.nil_append]
    by_cases hlt : i < old.length + 1
    · obtain ⟨r, hr⟩ : ∃ r, (o1 :: old)[i]? = some r := ⟨_, List.getElem?_eq_getElem (by simp; omega)⟩
      have e : delL s ((o1 :: old).take (i + 1)) = delK (delL s ((o1 :: old).take i)) r.a := by rw [take_succ' hr, delL_app]; rfl
      rw [List.take_succ_cons] at e
      have D := del_any r.a (delL_ok ((o1 :: old).take i) h) hm
      generalize delL s ((o1 :: old).take i) = u at *
      refine WS.pseq rfl ?_
      refine WS.pregion rfl ?_
      refine WS.poDT (tb := tb) rfl rfl rfl rfl rfl (by omega) ?_
      refine WS.pend rfl ?_
      refine WS.pseq rfl ?_
      refine WS.pcondT rfl rfl ?_
      refine WS.pskip rfl ?_
      refine WS.pseq rfl ?_
      refine WS.pblock rfl ?_
      refine WS.pseq rfl ?_
      refine WS.pregion rfl ?_
      refine WS.poP (tb := tb) rfl rfl rfl rfl (step_P (evP_index rfl rfl rfl rfl rfl rfl (by omega))) (by simp only [Nat.zero_add, Nat.add_zero, Nat.reduceAdd, Nat.reduceMul, Nat.add_assoc, Nat.mul_one]; exact rfl) ?_
      refine WS.poA (tb := tb) rfl rfl rfl rfl (step_R rfl (evR_loads rfl rfl rfl rfl rfl (by exact (cellsR_part0 (R := rwRn) hr (by exact Nat.le_of_ble_eq_true rfl))) (by exact rfl))) (by simp only [List.drop_zero, List.drop_succ_cons, List.take_succ_cons, List.take_zero, rwPl, rwRn, rwVw]; exact rfl) ?_
      refine WS.po (tb := tb) rfl rfl rfl rfl rfl ?_; rw [new_mem]; simp only [ll, vcells, mem_next, Nat.zero_add, Nat.zero_mul, Nat.reduceAdd, reps, setL, Nat.reduceMul]
      refine WS.po0 (tb := tb) rfl rfl rfl rfl (step_H rfl rfl (evH_store rfl rfl rfl rfl rfl (Nat.zero_le _) rfl (by simp [vcells]) (Nat.le_of_ble_eq_true rfl))) ?_; rw [upd_mem _ rfl]; simp only [vcells, setL, ll]
      refine WS.pend rfl ?_
      refine WS.pdrawE (tb := tb) [0,1,2] D (by exact rfl) (by kernel_rfl) rfl (by kernel_rfl) (by kernel_rfl) (by (try simp only [mapL, mapV, ll]) <;> exact rfl) (by simp [okL, okV, tsM, trM, arM]; fail_if_success exfalso) rfl (by simp [embP, okL, okV, mapL, mapV, mem_next, mem_get, mem_ro, mapL_cellsR, okL_cellsR, tsM, trM, arM]; fail_if_success exfalso) rfl ?_
      refine WD.p (tb := tb) rfl rfl rfl rfl rfl ?_
      refine WD.p (tb := tb) rfl rfl rfl rfl rfl ?_
      refine WD.pP (tb := tb) rfl rfl rfl rfl rfl (by simp only [nl, nz, Nat.reduceAdd, Nat.reduceMul, Int.reduceToNat]; exact rfl) ?_
      refine WD.r (tb := tb) rfl rfl rfl rfl rfl ?_
      refine WD.pP (tb := tb) rfl rfl rfl rfl rfl (by simp only [nl, nz, Nat.reduceAdd, Nat.reduceMul, Int.reduceToNat]; exact rfl) ?_
      refine WD.r (tb := tb) rfl rfl rfl rfl rfl ?_
      refine WD.ecall (tb := tb) rfl rfl rfl rfl rfl rfl rfl rfl rfl ?_; simp only [plugL, setsL, newsL, isOwn, ownB, over, mapL, mapV, ll, Nat.reduceAdd, Nat.reduceLT, Nat.zero_add, if_true, if_false, Nat.reduceSub, reduceIte, mapL_cellsR, Nat.lt_irrefl, Nat.not_lt_zero, Nat.zero_lt_succ, Nat.lt_add_one, tsM, trM, arM]
      refine WD.fin rfl ?_
      refine WS.pregion rfl ?_
      refine WS.poW (tb := tb) rfl rfl rfl rfl rfl (by simp only [lo]; omega) (by simp only [Am.hi]; omega) ?_
      refine WS.po (tb := tb) rfl rfl rfl rfl rfl ?_
      refine WS.pend rfl ?_
      refine WS.nil ?_
      exact ⟨i + 1, by omega, by omega, (SeenBy.seen (v := [0,1,2,3,4,5]) ⟨rfl, rfl, (by simp [viewP, okL, okV, mapL, mapV, mem_get, mapL_cellsR, okL_cellsR, chM, rmM, tsM, trM, arM, bk0, e]), (by first | exact rfl | exact own2_dist rfl rfl), (by simp only [slotsP, okV, okL, mapV, mapL, and_true, true_and, List.length_cons, List.length_nil, List.length_append, List.length_map, Nat.reduceAdd, Nat.reduceLT, chM, rmM, tsM, trM, arM, bk0, e]; repeat' (first | exact rfl | refine ⟨?_, ?_⟩ | exact lk_m rfl (hmp _ rfl) | exact lk_m rfl (hmp2 _ rfl) | exact hok _ (Nat.le_of_ble_eq_true rfl) | exact hok2 _ (Nat.le_of_ble_eq_true rfl) | exact lk_i rfl (by omega) | exact lk_sl rfl (by omega) (by omega) (by omega) | decide | omega))⟩)⟩
    · obtain rfl : i = old.length + 1 := by omega
      have e : (o1 :: old).take (old.length + 1) = o1 :: old := List.take_of_length_le (Nat.le_refl _)
      rw [e]
      refine WS.pseq rfl ?_
      refine WS.pregion rfl ?_
      refine WS.poDF (tb := tb) rfl rfl rfl rfl rfl (by omega) ?_
      refine WS.pend rfl ?_
      refine WS.pseq rfl ?_
      refine WS.pcondF rfl rfl ?_
      refine WS.pout rfl rfl ?_
      exact ⟨rfl, (), trivial, (SeenBy.seen (v := [0,1,2,3,4,5]) ⟨rfl, rfl, (by simp [viewP, okL, okV, mapL, mapV, mem_get, mapL_cellsR, okL_cellsR, chM, rmM, tsM, trM, arM, bk0]), (by first | exact rfl | exact own2_dist rfl rfl), (by simp only [slotsP, okV, okL, mapV, mapL, and_true, true_and, List.length_cons, List.length_nil, List.length_append, List.length_map, Nat.reduceAdd, Nat.reduceLT, chM, rmM, tsM, trM, arM, bk0]; repeat' (first | exact rfl | refine ⟨?_, ?_⟩ | exact lk_m rfl (hmp _ rfl) | exact lk_m rfl (hmp2 _ rfl) | exact hok _ (Nat.le_of_ble_eq_true rfl) | exact hok2 _ (Nat.le_of_ble_eq_true rfl) | exact lk_i rfl (by omega) | exact lk_sl rfl (by omega) (by omega) (by omega) | decide | omega))⟩)⟩
  · rintro _ -
    have hd := delL_ok (o1 :: old) h
    generalize hu : delL s (o1 :: old) = u at *
    simp only [chM, rmM, tsM, trM, arM, bk0, List.cons_append, List.nil_append]
    refine WS.pseq rfl ?_
    refine WS.pseq rfl ?_
    refine WS.pregion rfl ?_
    refine WS.po (tb := tb) rfl rfl rfl rfl rfl ?_
    refine WS.po (tb := tb) rfl rfl rfl rfl rfl ?_
    refine WS.po (tb := tb) rfl rfl rfl rfl rfl ?_
    refine WS.pend rfl ?_
    refine WS.pblock rfl ?_
    refine WS.ploopI (σ := Nat) (τ := Unit) (fun i => [(0, .p (some (3,0))), (42, .sl (some (5,0)) (fresh.length + 1) (fresh.length + 1) true), (43, .i .i64 ((fresh.length : Int) + 1)), (44, .i .i64 i)]) (fun i => chM cap most (insL' most u ((f1 :: fresh).take i)) (bk0 (o1 :: old)) (bk0 (f1 :: fresh))) (fun i => i ≤ (fresh.length + 1)) (fun i => (fresh.length + 1) - i)
      (fun _ => []) (fun _ => chM cap most (insL' most u (f1 :: fresh)) (bk0 (o1 :: old)) (bk0 (f1 :: fresh))) (fun _ => True) 2 [0,1,2,3,4,5] 0 rfl (Nat.zero_le _) ⟨rfl, rfl, (by simp [viewP, okL, okV, mapL, mapV, mem_get, mapL_cellsR, okL_cellsR, chM, rmM, tsM, trM, arM, bk0, insL', List.take_zero, List.foldl_nil]), (by first | exact rfl | exact own2_dist rfl rfl), (by simp only [slotsP, okV, okL, mapV, mapL, and_true, true_and, List.length_cons, List.length_nil, List.length_append, List.length_map, Nat.reduceAdd, Nat.reduceLT, chM, rmM, tsM, trM, arM, bk0, insL', List.take_zero, List.foldl_nil]; repeat' (first | exact rfl | refine ⟨?_, ?_⟩ | exact lk_m rfl (hmp _ rfl) | exact lk_m rfl (hmp2 _ rfl) | exact hok _ (Nat.le_of_ble_eq_true rfl) | exact hok2 _ (Nat.le_of_ble_eq_true rfl) | exact lk_i rfl (by omega) | exact lk_sl rfl (by omega) (by omega) (by omega) | decide | omega))⟩ rfl ?_ ?_
    · intro i hi
      simp only [chM, rmM, tsM, trM, arM, bk0, List.cons_append, List.nil_append]
      by_cases hlt : i < fresh.length + 1
      · obtain ⟨r, hr⟩ : ∃ r, (f1 :: fresh)[i]? = some r := ⟨_, List.getElem?_eq_getElem (by simp; omega)⟩
        have e : insL' most u ((f1 :: fresh).take (i + 1)) = insK most (insL' most u ((f1 :: fresh).take i)) r.a r.b r.c := by rw [take_succ' hr, insL_app']; rfl
        rw [List.take_succ_cons] at e
        have D := ins_any r.a r.b r.c (insL_ok ((f1 :: fresh).take i) hd) hm
        rw [C3 i (by simp; omega) r hr] at D
        generalize insL' most u ((f1 :: fresh).take i) = q at *
        refine WS.pseq rfl ?_
        refine WS.pregion rfl ?_
        refine WS.poDT (tb := tb) rfl rfl rfl rfl rfl (by omega) ?_
        refine WS.pend rfl ?_
        refine WS.pseq rfl ?_
        refine WS.pcondT rfl rfl ?_
        refine WS.pskip rfl ?_
        refine WS.pseq rfl ?_
        refine WS.pblock rfl ?_
        refine WS.pseq rfl ?_
        refine WS.pregion rfl ?_
        refine WS.poP (tb := tb) rfl rfl rfl rfl (step_P (evP_index rfl rfl rfl rfl rfl rfl (by omega))) (by simp only [Nat.zero_add, Nat.add_zero, Nat.reduceAdd, Nat.reduceMul, Nat.add_assoc, Nat.mul_one]; exact rfl) ?_
        refine WS.poA (tb := tb) rfl rfl rfl rfl (step_R rfl (evR_loads rfl rfl rfl rfl rfl (by exact (cellsR_part0 (R := rwRn) hr (by exact Nat.le_of_ble_eq_true rfl))) (by exact rfl))) (by simp only [List.drop_zero, List.drop_succ_cons, List.take_succ_cons, List.take_zero, rwPl, rwRn, rwVw]; exact rfl) ?_
        refine WS.po (tb := tb) rfl rfl rfl rfl rfl ?_; rw [new_mem]; simp only [ll, vcells, mem_next, Nat.zero_add, Nat.zero_mul, Nat.reduceAdd, reps, setL, Nat.reduceMul]
        refine WS.po0 (tb := tb) rfl rfl rfl rfl (step_H rfl rfl (evH_store rfl rfl rfl rfl rfl (Nat.zero_le _) rfl (by simp [vcells]) (Nat.le_of_ble_eq_true rfl))) ?_; rw [upd_mem _ rfl]; simp only [vcells, setL, ll]
        refine WS.pend rfl ?_
        refine WS.pseq rfl ?_
        refine WS.pdrawE (tb := tb) [0,1,2] D (by exact rfl) (by kernel_rfl) rfl (by kernel_rfl) (by kernel_rfl) (by (try simp only [mapL, mapV, ll]) <;> exact rfl) (by simp [okL, okV, tsM, trM, arM]; fail_if_success exfalso) rfl (by simp [embP, okL, okV, mapL, mapV, mem_next, mem_get, mem_ro, mapL_cellsR, okL_cellsR, tsM, trM, arM]; fail_if_success exfalso) rfl ?_
        refine WD.p (tb := tb) rfl rfl rfl rfl rfl ?_
        refine WD.p (tb := tb) rfl rfl rfl rfl rfl ?_
        refine WD.pP (tb := tb) rfl rfl rfl rfl rfl (by simp only [nl, nz, Nat.reduceAdd, Nat.reduceMul, Int.reduceToNat]; exact rfl) ?_
        refine WD.r (tb := tb) rfl rfl rfl rfl rfl ?_
        refine WD.rA (tb := tb) rfl rfl rfl rfl rfl (by simp only [List.drop_zero, List.drop_succ_cons, List.take_succ_cons, List.take_zero, rwPl, rwRn, rwVw]; exact rfl) ?_
        refine WD.ecall (tb := tb) rfl rfl rfl rfl rfl rfl rfl rfl rfl ?_; simp only [plugL, setsL, newsL, isOwn, ownB, over, mapL, mapV, ll, Nat.reduceAdd, Nat.reduceLT, Nat.zero_add, if_true, if_false, Nat.reduceSub, reduceIte, mapL_cellsR, Nat.lt_irrefl, Nat.not_lt_zero, Nat.zero_lt_succ, Nat.lt_add_one, tsM, trM, arM]
        refine WD.p (tb := tb) rfl rfl rfl rfl rfl ?_
        refine WD.fin rfl ?_
        refine WS.pseq rfl ?_
        refine WS.pregion rfl ?_
        refine WS.po (tb := tb) rfl rfl rfl rfl rfl ?_
        refine WS.poB (tb := tb) false rfl rfl rfl rfl rfl rfl ?_
        refine WS.pend rfl ?_
        refine WS.pcondF rfl rfl ?_
        refine WS.pskip rfl ?_
        refine WS.pregion rfl ?_
        refine WS.poW (tb := tb) rfl rfl rfl rfl rfl (by simp only [lo]; omega) (by simp only [Am.hi]; omega) ?_
        refine WS.po (tb := tb) rfl rfl rfl rfl rfl ?_
        refine WS.pend rfl ?_
        refine WS.nil ?_
        exact ⟨i + 1, by omega, by omega, (SeenBy.seen (v := [0,1,2,3,4,5]) ⟨rfl, rfl, (by simp [viewP, okL, okV, mapL, mapV, mem_get, mapL_cellsR, okL_cellsR, chM, rmM, tsM, trM, arM, bk0, e]), (by first | exact rfl | exact own2_dist rfl rfl), (by simp only [slotsP, okV, okL, mapV, mapL, and_true, true_and, List.length_cons, List.length_nil, List.length_append, List.length_map, Nat.reduceAdd, Nat.reduceLT, chM, rmM, tsM, trM, arM, bk0, e]; repeat' (first | exact rfl | refine ⟨?_, ?_⟩ | exact lk_m rfl (hmp _ rfl) | exact lk_m rfl (hmp2 _ rfl) | exact hok _ (Nat.le_of_ble_eq_true rfl) | exact hok2 _ (Nat.le_of_ble_eq_true rfl) | exact lk_i rfl (by omega) | exact lk_sl rfl (by omega) (by omega) (by omega) | decide | omega))⟩)⟩
      · obtain rfl : i = fresh.length + 1 := by omega
        have e : (f1 :: fresh).take (fresh.length + 1) = f1 :: fresh := List.take_of_length_le (Nat.le_refl _)
        rw [e]
        refine WS.pseq rfl ?_
        refine WS.pregion rfl ?_
        refine WS.poDF (tb := tb) rfl rfl rfl rfl rfl (by omega) ?_
        refine WS.pend rfl ?_
        refine WS.pseq rfl ?_
        refine WS.pcondF rfl rfl ?_
        refine WS.pout rfl rfl ?_
        exact ⟨rfl, (), trivial, (SeenBy.seen (v := [0,1,2,3,4,5]) ⟨rfl, rfl, (by simp [viewP, okL, okV, mapL, mapV, mem_get, mapL_cellsR, okL_cellsR, chM, rmM, tsM, trM, arM, bk0]), (by first | exact rfl | exact own2_dist rfl rfl), (by simp only [slotsP, okV, okL, mapV, mapL, and_true, true_and, List.length_cons, List.length_nil, List.length_append, List.length_map, Nat.reduceAdd, Nat.reduceLT, chM, rmM, tsM, trM, arM, bk0]; repeat' (first | exact rfl | refine ⟨?_, ?_⟩ | exact lk_m rfl (hmp _ rfl) | exact lk_m rfl (hmp2 _ rfl) | exact hok _ (Nat.le_of_ble_eq_true rfl) | exact hok2 _ (Nat.le_of_ble_eq_true rfl) | exact lk_i rfl (by omega) | exact lk_sl rfl (by omega) (by omega) (by omega) | decide | omega))⟩)⟩
    · rintro _ -
      generalize insL' most u (f1 :: fresh) = q at *
      simp only [chM, rmM, tsM, trM, arM, bk0, List.cons_append, List.nil_append]
      refine WS.pseq rfl ?_
      refine WS.pregion rfl ?_
      refine WS.po (tb := tb) rfl rfl rfl rfl rfl ?_
      refine WS.pend rfl ?_
      refine WS.pret rfl ⟨.inr rfl, _, rfl, ?_⟩
      exact ⟨_, rfl, [0,1,2,3,4,5], chM cap most q (bk0 (o1 :: old)) (bk0 (f1 :: fresh)), .i .i64 0, ⟨rfl, rfl, (by simp [viewP, okL, okV, mapL, mapV, mem_get, mapL_cellsR, okL_cellsR, chM, rmM, tsM, trM, arM, bk0]), rfl⟩, rfl, trivial, rfl, rfl⟩
end Go.Proofs.Ytdeeancepelkiaa.Am

