/- Runs laid behind one another, walked. Conditions: those of each theorem. -/
import Derived.Test.YtdeeancepelkiaaRu3
namespace Go.Proofs.Ytdeeancepelkiaa.Am
open Go.Proofs
set_option maxRecDepth 1000000
set_option maxHeartbeats 4000000
set_option linter.unusedSimpArgs false
set_option linter.unusedVariables false
def layS (out : List Rn) (o : Option Rn) : List Rn := match o with
  | none => out
  | some r => match out[out.length - 1]? with
    | none => out ++ [r]
    | some q => if jn q r = true then out.set (out.length - 1) ⟨q.a, q.b + r.b, q.c⟩ else out ++ [r]
def layL (l : List (Option Rn)) : List Rn := l.foldl layS []
theorem layL_app (l : List (Option Rn)) (o : Option Rn) : layL (l ++ [o]) = layS (layL l) o := by simp [layL]
theorem layS_len (out : List Rn) (o : Option Rn) : (layS out o).length ≤ out.length + 1 := by
  unfold layS; split
  · omega
  · split
    · simp
    · split <;> simp
theorem layF_len : ∀ (l : List (Option Rn)) (out : List Rn), (l.foldl layS out).length ≤ out.length + l.length
  | [], out => by simp
  | o :: l, out => by have := layF_len l (layS out o); have := layS_len out o; simp only [List.foldl_cons, List.length_cons]; omega
theorem layL_len (l : List (Option Rn)) : (layL l).length ≤ l.length := by have := layF_len l []; simpa [layL] using this
def lyT (l : List (Option Rn)) (i : Nat) : List Rn := layL (l.take i)
def bkQ (o : Option Rn) : Option Blk := match o with
  | none => none
  | some r => some ⟨[.i .i64 r.a, .i .i64 r.b, .i .i64 r.c], 57, false⟩
def lyM2 (o1 o2 : Option Rn) : List (Option Blk) := [some ⟨[ptP 1 o1, ptP 2 o2], 65, false⟩, bkQ o1, bkQ o2]
theorem lay2_walk (o1 o2 : Option Rn) (hB : ∀ i : Nat, ∀ q ∈ lyT [o1, o2] i, RB q) (hR : ∀ r, some r ∈ [o1, o2] → RB r) :
    FM Try.prog 34 [.sl (some (0,0)) 2 2 false] (lyM2 o1 o2) (fun v M' => v = slP 3 (layL [o1, o2]) ∧ M' = lyM2 o1 o2 ++ [bkL (layL [o1, o2])]) := by
  refine FM.pbodyV (tb := tb) (fn := Try.f34) rfl rfl ?_
  simp only [argS, Nat.reduceAdd, lyM2, List.length_cons, List.length_nil]
  refine WS.pseq rfl ?_
  refine WS.pregion rfl ?_
  refine WS.po (tb := tb) rfl rfl rfl rfl rfl ?_
  refine WS.pend rfl ?_
  refine WS.pseq rfl ?_
  refine WS.pregion rfl ?_
  refine WS.po (tb := tb) rfl rfl rfl rfl rfl ?_
  refine WS.pend rfl ?_
  refine WS.pseq rfl ?_
  refine WS.pseq rfl ?_
  refine WS.pregion rfl ?_
  refine WS.po (tb := tb) rfl rfl rfl rfl rfl ?_
  refine WS.po (tb := tb) rfl rfl rfl rfl rfl ?_
  refine WS.po (tb := tb) rfl rfl rfl rfl rfl ?_
  refine WS.pend rfl ?_
  refine WS.pblock rfl ?_
  refine WS.ploopI (σ := Nat) (τ := Unit) (fun i => [(3, slP 3 (lyT [o1, o2] i)), (9, .sl (some (0,0)) 2 2 false), (10, .i .i64 2), (11, .i .i64 i)]) (fun i => lyM2 o1 o2 ++ [bkL (lyT [o1, o2] i)]) (fun i => i ≤ 2) (fun i => 2 - i)
    (fun _ => [(3, slP 3 (layL [o1, o2]))]) (fun _ => lyM2 o1 o2 ++ [bkL (layL [o1, o2])]) (fun _ => True) 0 [0,1,2,3] 0 rfl (Nat.zero_le _) (by
      rcases o1 with _ | r1 <;> rcases o2 with _ | r2 <;> exact ⟨rfl, rfl, (by simp [viewP, okL, okV, mapL, mapV, mem_get, mapL_cellsR, okL_cellsR, lyM2, bkL, bkQ, slP, ptP, lyT, layL, List.take_zero, List.foldl_nil]), (by first | exact rfl | exact own2_dist rfl rfl), (by simp only [slotsP, okV, okL, mapV, mapL, and_true, true_and, List.length_cons, List.length_nil, List.length_append, List.length_map, Nat.reduceAdd, Nat.reduceLT, lyM2, bkL, bkQ, slP, ptP, lyT, layL, List.take_zero, List.foldl_nil]; repeat' (first | exact rfl | refine ⟨?_, ?_⟩ | exact lk_m rfl (hmp _ rfl) | exact lk_m rfl (hmp2 _ rfl) | exact hok _ (Nat.le_of_ble_eq_true rfl) | exact hok2 _ (Nat.le_of_ble_eq_true rfl) | exact lk_i rfl (by omega) | exact lk_sl rfl (by omega) (by omega) (by omega) | decide | omega))⟩) rfl ?_ ?_
  · intro i hi
    have hBi := hB i
    have hlen : (lyT [o1, o2] i).length ≤ i := Nat.le_trans (layL_len _) (by simp; omega)
    by_cases h0 : i = 0
    · subst h0
      rcases o1 with _ | r
      · have e : lyT [none, o2] 1 = lyT [none, o2] 0 := rfl
        generalize hout : lyT [none, o2] 0 = out at *
        simp only [lyM2, ptP, bkQ, List.cons_append, List.nil_append]
        refine WS.pseq rfl ?_
        refine WS.pregion rfl ?_
        refine WS.poB (tb := tb) true rfl rfl rfl rfl rfl rfl ?_
        refine WS.pend rfl ?_
        refine WS.pseq rfl ?_
        refine WS.pcondT rfl rfl ?_
        refine WS.pskip rfl ?_
        refine WS.pseq rfl ?_
        refine WS.pblock rfl ?_
        refine WS.pseq rfl ?_
        refine WS.pregion rfl ?_
        refine WS.poP (tb := tb) rfl rfl rfl rfl (step_P (evP_index rfl rfl rfl rfl rfl rfl (by omega))) (by simp only [Nat.zero_add, Nat.add_zero, Nat.reduceAdd, Nat.reduceMul, Nat.add_assoc, Nat.mul_one]; exact rfl) ?_
        refine WS.po (tb := tb) rfl rfl rfl rfl rfl ?_
        refine WS.po (tb := tb) rfl rfl rfl rfl rfl ?_
        refine WS.pend rfl ?_
        refine WS.pseq rfl ?_
        refine WS.pseq rfl ?_
        refine WS.pregion rfl ?_
        refine WS.po (tb := tb) rfl rfl rfl rfl rfl ?_
        refine WS.poB (tb := tb) true rfl rfl rfl rfl rfl rfl ?_
        refine WS.pend rfl ?_
        refine WS.pcondT rfl rfl ?_
        refine WS.pexit rfl rfl ?_
        refine WS.pregion rfl ?_
        refine WS.poW (tb := tb) rfl rfl rfl rfl rfl (by simp only [lo]; omega) (by simp only [Am.hi]; omega) ?_
        refine WS.po (tb := tb) rfl rfl rfl rfl rfl ?_
        refine WS.pend rfl ?_
        refine WS.nil ?_
        rcases o2 with _ | z2 <;> rcases out with _ | ⟨x, out⟩ <;> exact ⟨1, by omega, by omega, (SeenBy.seen (v := [0,1,2,3]) ⟨rfl, rfl, (by simp [viewP, okL, okV, mapL, mapV, mem_get, mapL_cellsR, okL_cellsR, lyM2, bkL, bkQ, slP, ptP, e]), (by first | exact rfl | exact own2_dist rfl rfl), (by simp only [slotsP, okV, okL, mapV, mapL, and_true, true_and, List.length_cons, List.length_nil, List.length_append, List.length_map, Nat.reduceAdd, Nat.reduceLT, lyM2, bkL, bkQ, slP, ptP, e]; repeat' (first | exact rfl | refine ⟨?_, ?_⟩ | exact lk_m rfl (hmp _ rfl) | exact lk_m rfl (hmp2 _ rfl) | exact hok _ (Nat.le_of_ble_eq_true rfl) | exact hok2 _ (Nat.le_of_ble_eq_true rfl) | exact lk_i rfl (by omega) | exact lk_sl rfl (by omega) (by omega) (by omega) | decide | omega))⟩)⟩
      · have Hr := hR r (by simp)
        have e : lyT [some r, o2] 1 = layS (lyT [some r, o2] 0) (some r) := rfl
        simp only [layS] at e
        generalize hout : lyT [some r, o2] 0 = out at *
        rcases out with _ | ⟨x, out⟩
        · simp only [List.length_nil, List.getElem?_nil, List.nil_append] at e
          simp only [lyM2, ptP, bkQ, slP, bkL, List.cons_append, List.nil_append]
          refine WS.pseq rfl ?_
          refine WS.pregion rfl ?_
          refine WS.poB (tb := tb) true rfl rfl rfl rfl rfl rfl ?_
          refine WS.pend rfl ?_
          refine WS.pseq rfl ?_
          refine WS.pcondT rfl rfl ?_
          refine WS.pskip rfl ?_
          refine WS.pseq rfl ?_
          refine WS.pblock rfl ?_
          refine WS.pseq rfl ?_
          refine WS.pregion rfl ?_
          refine WS.poP (tb := tb) rfl rfl rfl rfl (step_P (evP_index rfl rfl rfl rfl rfl rfl (by omega))) (by simp only [Nat.zero_add, Nat.add_zero, Nat.reduceAdd, Nat.reduceMul, Nat.add_assoc, Nat.mul_one]; exact rfl) ?_
          refine WS.po (tb := tb) rfl rfl rfl rfl rfl ?_
          refine WS.po (tb := tb) rfl rfl rfl rfl rfl ?_
          refine WS.pend rfl ?_
          refine WS.pseq rfl ?_
          refine WS.pseq rfl ?_
          refine WS.pregion rfl ?_
          refine WS.po (tb := tb) rfl rfl rfl rfl rfl ?_
          refine WS.poB (tb := tb) false rfl rfl rfl rfl rfl rfl ?_
          refine WS.pend rfl ?_
          refine WS.pcondF rfl rfl ?_
          refine WS.pskip rfl ?_
          refine WS.pseq rfl ?_
          refine WS.pseq rfl ?_
          refine WS.pregion rfl ?_
          refine WS.po (tb := tb) rfl rfl rfl rfl rfl ?_
          refine WS.po (tb := tb) rfl rfl rfl rfl rfl ?_
          refine WS.po (tb := tb) rfl rfl rfl rfl rfl ?_
          refine WS.pend rfl ?_
          refine WS.pseq rfl ?_
          refine WS.pregion rfl ?_
          refine WS.po (tb := tb) rfl rfl rfl rfl rfl ?_
          refine WS.poB (tb := tb) false rfl rfl rfl rfl rfl rfl ?_
          refine WS.pend rfl ?_
          refine WS.pcondF rfl rfl ?_
          refine WS.pskip rfl ?_
          refine WS.pregion rfl ?_
          refine WS.po (tb := tb) rfl rfl rfl rfl rfl ?_
          refine WS.po (tb := tb) rfl rfl rfl rfl rfl ?_
          refine WS.po (tb := tb) rfl rfl rfl rfl rfl ?_
          refine WS.poA (tb := tb) rfl rfl rfl rfl rfl (by simp only [List.drop_zero, List.drop_succ_cons, List.take_succ_cons, List.take_zero, rwPl, rwRn, rwVw]; exact rfl) ?_
          refine WS.po (tb := tb) rfl rfl rfl rfl rfl ?_; rw [new_mem]; simp only [ll, vcells, mem_next, Nat.zero_add, Nat.zero_mul, Nat.reduceAdd, reps, setL, Nat.reduceMul]
          refine WS.po (tb := tb) rfl rfl rfl rfl (step_H rfl rfl (evH_append_nil rfl rfl rfl rfl rfl rfl rfl rfl rfl rfl (by omega) (by omega) (cellsAt_all rfl rfl) (by first | exact rfl | (simp only [Pl_len, Rn_len, Vw_len, vcells, List.length_cons, List.length_nil, cellsI_len, cellsB_len, List.length_set, List.length_replicate, List.length_append, List.length_map, List.length_take, List.length_drop]; omega) | omega) (by omega))) ?_; (try rw [upd_mem _ rfl]); (try rw [new_mem]); (try simp only [List.set_cons_zero, List.set_cons_succ, List.cons_append, List.nil_append, mem_next, List.length_cons, List.length_nil, Nat.zero_add, Nat.reduceAdd, List.drop_zero, vcells, cellsI_app1, cellsB_app1, cellsI_cons, repsI, repsB, Pl_app1, Pl_reps, Rn_app1, Rn_reps, Vw_app1, Vw_reps])
          refine WS.po (tb := tb) rfl rfl rfl rfl rfl ?_
          refine WS.pend rfl ?_
          refine WS.pregion rfl ?_
          refine WS.poW (tb := tb) rfl rfl rfl rfl rfl (by simp only [lo]; omega) (by simp only [Am.hi]; omega) ?_
          refine WS.po (tb := tb) rfl rfl rfl rfl rfl ?_
          refine WS.pend rfl ?_
          refine WS.nil ?_
          rcases o2 with _ | z2 <;> exact ⟨1, by omega, by omega, (SeenBy.seen (v := [0,1,2,5]) ⟨rfl, rfl, (by simp [viewP, okL, okV, mapL, mapV, mem_get, mapL_cellsR, okL_cellsR, lyM2, bkL, bkQ, slP, ptP, e, Rn_one1]), (by first | exact rfl | exact own2_dist rfl rfl), (by simp only [slotsP, okV, okL, mapV, mapL, and_true, true_and, List.length_cons, List.length_nil, List.length_append, List.length_map, Nat.reduceAdd, Nat.reduceLT, lyM2, bkL, bkQ, slP, ptP, e, Rn_one1]; repeat' (first | exact rfl | refine ⟨?_, ?_⟩ | exact lk_m rfl (hmp _ rfl) | exact lk_m rfl (hmp2 _ rfl) | exact hok _ (Nat.le_of_ble_eq_true rfl) | exact hok2 _ (Nat.le_of_ble_eq_true rfl) | exact lk_i rfl (by omega) | exact lk_sl rfl (by omega) (by omega) (by omega) | decide | omega))⟩)⟩
        · simp at hlen
    by_cases h1 : i = 1
    · subst h1
      rcases o2 with _ | r
      · have e : lyT [o1, none] 2 = lyT [o1, none] 1 := rfl
        generalize hout : lyT [o1, none] 1 = out at *
        simp only [lyM2, ptP, bkQ, List.cons_append, List.nil_append]
        refine WS.pseq rfl ?_
        refine WS.pregion rfl ?_
        refine WS.poB (tb := tb) true rfl rfl rfl rfl rfl rfl ?_
        refine WS.pend rfl ?_
        refine WS.pseq rfl ?_
        refine WS.pcondT rfl rfl ?_
        refine WS.pskip rfl ?_
        refine WS.pseq rfl ?_
        refine WS.pblock rfl ?_
        refine WS.pseq rfl ?_
        refine WS.pregion rfl ?_
        refine WS.poP (tb := tb) rfl rfl rfl rfl (step_P (evP_index rfl rfl rfl rfl rfl rfl (by omega))) (by simp only [Nat.zero_add, Nat.add_zero, Nat.reduceAdd, Nat.reduceMul, Nat.add_assoc, Nat.mul_one]; exact rfl) ?_
        refine WS.po (tb := tb) rfl rfl rfl rfl rfl ?_
        refine WS.po (tb := tb) rfl rfl rfl rfl rfl ?_
        refine WS.pend rfl ?_
        refine WS.pseq rfl ?_
        refine WS.pseq rfl ?_
        refine WS.pregion rfl ?_
        refine WS.po (tb := tb) rfl rfl rfl rfl rfl ?_
        refine WS.poB (tb := tb) true rfl rfl rfl rfl rfl rfl ?_
        refine WS.pend rfl ?_
        refine WS.pcondT rfl rfl ?_
        refine WS.pexit rfl rfl ?_
        refine WS.pregion rfl ?_
        refine WS.poW (tb := tb) rfl rfl rfl rfl rfl (by simp only [lo]; omega) (by simp only [Am.hi]; omega) ?_
        refine WS.po (tb := tb) rfl rfl rfl rfl rfl ?_
        refine WS.pend rfl ?_
        refine WS.nil ?_
        rcases o1 with _ | z1 <;> rcases out with _ | ⟨x, out⟩ <;> exact ⟨2, by omega, by omega, (SeenBy.seen (v := [0,1,2,3]) ⟨rfl, rfl, (by simp [viewP, okL, okV, mapL, mapV, mem_get, mapL_cellsR, okL_cellsR, lyM2, bkL, bkQ, slP, ptP, e]), (by first | exact rfl | exact own2_dist rfl rfl), (by simp only [slotsP, okV, okL, mapV, mapL, and_true, true_and, List.length_cons, List.length_nil, List.length_append, List.length_map, Nat.reduceAdd, Nat.reduceLT, lyM2, bkL, bkQ, slP, ptP, e]; repeat' (first | exact rfl | refine ⟨?_, ?_⟩ | exact lk_m rfl (hmp _ rfl) | exact lk_m rfl (hmp2 _ rfl) | exact hok _ (Nat.le_of_ble_eq_true rfl) | exact hok2 _ (Nat.le_of_ble_eq_true rfl) | exact lk_i rfl (by omega) | exact lk_sl rfl (by omega) (by omega) (by omega) | decide | omega))⟩)⟩
      · have Hr := hR r (by simp)
        have e : lyT [o1, some r] 2 = layS (lyT [o1, some r] 1) (some r) := rfl
        simp only [layS] at e
        generalize hout : lyT [o1, some r] 1 = out at *
        rcases out with _ | ⟨x, out⟩
        · simp only [List.length_nil, List.getElem?_nil, List.nil_append] at e
          simp only [lyM2, ptP, bkQ, slP, bkL, List.cons_append, List.nil_append]
          refine WS.pseq rfl ?_
          refine WS.pregion rfl ?_
          refine WS.poB (tb := tb) true rfl rfl rfl rfl rfl rfl ?_
          refine WS.pend rfl ?_
          refine WS.pseq rfl ?_
          refine WS.pcondT rfl rfl ?_
          refine WS.pskip rfl ?_
          refine WS.pseq rfl ?_
          refine WS.pblock rfl ?_
          refine WS.pseq rfl ?_
          refine WS.pregion rfl ?_
          refine WS.poP (tb := tb) rfl rfl rfl rfl (step_P (evP_index rfl rfl rfl rfl rfl rfl (by omega))) (by simp only [Nat.zero_add, Nat.add_zero, Nat.reduceAdd, Nat.reduceMul, Nat.add_assoc, Nat.mul_one]; exact rfl) ?_
          refine WS.po (tb := tb) rfl rfl rfl rfl rfl ?_
          refine WS.po (tb := tb) rfl rfl rfl rfl rfl ?_
          refine WS.pend rfl ?_
          refine WS.pseq rfl ?_
          refine WS.pseq rfl ?_
          refine WS.pregion rfl ?_
          refine WS.po (tb := tb) rfl rfl rfl rfl rfl ?_
          refine WS.poB (tb := tb) false rfl rfl rfl rfl rfl rfl ?_
          refine WS.pend rfl ?_
          refine WS.pcondF rfl rfl ?_
          refine WS.pskip rfl ?_
          refine WS.pseq rfl ?_
          refine WS.pseq rfl ?_
          refine WS.pregion rfl ?_
          refine WS.po (tb := tb) rfl rfl rfl rfl rfl ?_
          refine WS.po (tb := tb) rfl rfl rfl rfl rfl ?_
          refine WS.po (tb := tb) rfl rfl rfl rfl rfl ?_
          refine WS.pend rfl ?_
          refine WS.pseq rfl ?_
          refine WS.pregion rfl ?_
          refine WS.po (tb := tb) rfl rfl rfl rfl rfl ?_
          refine WS.poB (tb := tb) false rfl rfl rfl rfl rfl rfl ?_
          refine WS.pend rfl ?_
          refine WS.pcondF rfl rfl ?_
          refine WS.pskip rfl ?_
          refine WS.pregion rfl ?_
          refine WS.po (tb := tb) rfl rfl rfl rfl rfl ?_
          refine WS.po (tb := tb) rfl rfl rfl rfl rfl ?_
          refine WS.po (tb := tb) rfl rfl rfl rfl rfl ?_
          refine WS.poA (tb := tb) rfl rfl rfl rfl rfl (by simp only [List.drop_zero, List.drop_succ_cons, List.take_succ_cons, List.take_zero, rwPl, rwRn, rwVw]; exact rfl) ?_
          refine WS.po (tb := tb) rfl rfl rfl rfl rfl ?_; rw [new_mem]; simp only [ll, vcells, mem_next, Nat.zero_add, Nat.zero_mul, Nat.reduceAdd, reps, setL, Nat.reduceMul]
          refine WS.po (tb := tb) rfl rfl rfl rfl (step_H rfl rfl (evH_append_nil rfl rfl rfl rfl rfl rfl rfl rfl rfl rfl (by omega) (by omega) (cellsAt_all rfl rfl) (by first | exact rfl | (simp only [Pl_len, Rn_len, Vw_len, vcells, List.length_cons, List.length_nil, cellsI_len, cellsB_len, List.length_set, List.length_replicate, List.length_append, List.length_map, List.length_take, List.length_drop]; omega) | omega) (by omega))) ?_; (try rw [upd_mem _ rfl]); (try rw [new_mem]); (try simp only [List.set_cons_zero, List.set_cons_succ, List.cons_append, List.nil_append, mem_next, List.length_cons, List.length_nil, Nat.zero_add, Nat.reduceAdd, List.drop_zero, vcells, cellsI_app1, cellsB_app1, cellsI_cons, repsI, repsB, Pl_app1, Pl_reps, Rn_app1, Rn_reps, Vw_app1, Vw_reps])
          refine WS.po (tb := tb) rfl rfl rfl rfl rfl ?_
          refine WS.pend rfl ?_
          refine WS.pregion rfl ?_
          refine WS.poW (tb := tb) rfl rfl rfl rfl rfl (by simp only [lo]; omega) (by simp only [Am.hi]; omega) ?_
          refine WS.po (tb := tb) rfl rfl rfl rfl rfl ?_
          refine WS.pend rfl ?_
          refine WS.nil ?_
          rcases o1 with _ | z1 <;> exact ⟨2, by omega, by omega, (SeenBy.seen (v := [0,1,2,5]) ⟨rfl, rfl, (by simp [viewP, okL, okV, mapL, mapV, mem_get, mapL_cellsR, okL_cellsR, lyM2, bkL, bkQ, slP, ptP, e, Rn_one1]), (by first | exact rfl | exact own2_dist rfl rfl), (by simp only [slotsP, okV, okL, mapV, mapL, and_true, true_and, List.length_cons, List.length_nil, List.length_append, List.length_map, Nat.reduceAdd, Nat.reduceLT, lyM2, bkL, bkQ, slP, ptP, e, Rn_one1]; repeat' (first | exact rfl | refine ⟨?_, ?_⟩ | exact lk_m rfl (hmp _ rfl) | exact lk_m rfl (hmp2 _ rfl) | exact hok _ (Nat.le_of_ble_eq_true rfl) | exact hok2 _ (Nat.le_of_ble_eq_true rfl) | exact lk_i rfl (by omega) | exact lk_sl rfl (by omega) (by omega) (by omega) | decide | omega))⟩)⟩
        · obtain ⟨q, hq⟩ : ∃ q, (x :: out)[out.length]? = some q := ⟨_, List.getElem?_eq_getElem (by simp)⟩
          have Hq := hBi q (List.mem_of_getElem? hq)
          have J := join_walk q r Hq Hr
          simp only [List.length_cons] at hlen
          have e1 : ((out.length : Int) + 1) - 1 = ((out.length : Nat) : Int) := by omega
          have hol : out.length ≤ 10 := by omega
          simp only [List.length_cons, Nat.add_sub_cancel, hq] at e
          by_cases hj : jn q r = true
          · rw [if_pos hj] at e
            simp only [hj, if_true] at J
            have hs : setL (cellsR rwRn (x :: out)) (out.length * 3) [.i .i64 q.a, .i .i64 (q.b + r.b), .i .i64 q.c] = cellsR rwRn ((x :: out).set out.length ⟨q.a, q.b + r.b, q.c⟩) := Rn_set hq _ _ _
            obtain ⟨x2, out2, hx2⟩ : ∃ x2 out2, (x :: out).set out.length ⟨q.a, q.b + r.b, q.c⟩ = x2 :: out2 := by
              cases hset : (x :: out).set out.length ⟨q.a, q.b + r.b, q.c⟩ with
              | nil => have := congrArg List.length hset; simp at this
              | cons x2 out2 => exact ⟨x2, out2, rfl⟩
            have hl2 : out2.length = out.length := by have := congrArg List.length hx2; simp at this; omega
            rw [hx2] at e hs
            simp only [lyM2, ptP, bkQ, slP, bkL, List.cons_append, List.nil_append]
            refine WS.pseq rfl ?_
            refine WS.pregion rfl ?_
            refine WS.poB (tb := tb) true rfl rfl rfl rfl rfl rfl ?_
            refine WS.pend rfl ?_
            refine WS.pseq rfl ?_
            refine WS.pcondT rfl rfl ?_
            refine WS.pskip rfl ?_
            refine WS.pseq rfl ?_
            refine WS.pblock rfl ?_
            refine WS.pseq rfl ?_
            refine WS.pregion rfl ?_
            refine WS.poP (tb := tb) rfl rfl rfl rfl (step_P (evP_index rfl rfl rfl rfl rfl rfl (by omega))) (by simp only [Nat.zero_add, Nat.add_zero, Nat.reduceAdd, Nat.reduceMul, Nat.add_assoc, Nat.mul_one]; exact rfl) ?_
            refine WS.po (tb := tb) rfl rfl rfl rfl rfl ?_
            refine WS.po (tb := tb) rfl rfl rfl rfl rfl ?_
            refine WS.pend rfl ?_
            refine WS.pseq rfl ?_
            refine WS.pseq rfl ?_
            refine WS.pregion rfl ?_
            refine WS.po (tb := tb) rfl rfl rfl rfl rfl ?_
            refine WS.poB (tb := tb) false rfl rfl rfl rfl rfl rfl ?_
            refine WS.pend rfl ?_
            refine WS.pcondF rfl rfl ?_
            refine WS.pskip rfl ?_
            refine WS.pseq rfl ?_
            refine WS.pseq rfl ?_
            refine WS.pregion rfl ?_
            refine WS.po (tb := tb) rfl rfl rfl rfl rfl ?_
            refine WS.po (tb := tb) rfl rfl rfl rfl rfl ?_
            refine WS.po (tb := tb) rfl rfl rfl rfl rfl ?_
            refine WS.pend rfl ?_
            refine WS.pseq rfl ?_
            refine WS.pregion rfl ?_
            refine WS.po (tb := tb) rfl rfl rfl rfl rfl ?_
            refine WS.poDT (tb := tb) rfl rfl rfl rfl rfl (by omega) ?_
            refine WS.pend rfl ?_
            refine WS.pcondT rfl rfl ?_
            refine WS.pseq rfl ?_
            refine WS.pdrawF (tb := tb) [] J (by exact rfl) (by kernel_rfl) rfl (by kernel_rfl) (by kernel_rfl) (by (try simp only [mapL, mapV, ll]) <;> exact rfl) (by simp [okL, okV, e1]) rfl (by simp [embP, okL, okV, mapL, mapV, mem_next, mem_get, mem_ro, mapL_cellsR, okL_cellsR, e1]; fail_if_success exfalso) rfl (by first | trivial | simp [okV, okL]) (fun _ => ?_)
            refine WD.p (tb := tb) rfl rfl rfl rfl rfl ?_
            refine WD.p (tb := tb) rfl rfl rfl rfl rfl ?_
            refine WD.pW (tb := tb) rfl rfl rfl rfl rfl (by simp only [lo]; omega) (by simp only [Am.hi]; omega) ?_
            refine WD.pP (tb := tb) rfl rfl rfl rfl (evP_index rfl rfl rfl rfl rfl (by assumption) (by omega)) (by simp only [nl, nz, Nat.reduceAdd, Nat.reduceMul, Int.reduceToNat]; exact rfl) ?_
            refine WD.fRA (tb := tb) rfl rfl rfl rfl rfl (evR_loads rfl rfl rfl rfl rfl (by exact (cellsR_part0 (R := rwRn) hq (by exact Nat.le_of_ble_eq_true rfl))) (by exact rfl)) (by simp only [List.drop_zero, List.drop_succ_cons, List.take_succ_cons, List.take_zero, rwPl, rwRn, rwVw]; exact rfl) (mem_wf _ _) ?_
            refine WD.p (tb := tb) rfl rfl rfl rfl rfl ?_
            refine WD.p (tb := tb) rfl rfl rfl rfl rfl ?_
            refine WD.fRA (tb := tb) rfl rfl rfl rfl rfl rfl (by simp only [List.drop_zero, List.drop_succ_cons, List.take_succ_cons, List.take_zero, rwPl, rwRn, rwVw]; exact rfl) (mem_wf _ _) ?_
            refine WD.fC (tb := tb) rfl rfl rfl rfl rfl (fun _ => rfl) rfl rfl (fun _ => rfl) (Grow.lists rfl) ?_
            refine WD.p (tb := tb) rfl rfl rfl rfl rfl ?_
            refine WD.p (tb := tb) rfl rfl rfl rfl rfl ?_
            refine WD.p (tb := tb) rfl rfl rfl rfl rfl ?_
            refine WD.e3 (tb := tb) rfl rfl rfl rfl rfl rfl ?_; rw [new_mem]; simp only [ll, vcells, mem_next, Nat.zero_add, Nat.zero_mul, Nat.reduceAdd, reps, setL, Nat.reduceMul]
            refine WD.e0 (tb := tb) rfl rfl rfl rfl rfl (evE_H (evH_store rfl rfl rfl rfl rfl (Nat.zero_le _) rfl (by simp [vcells]) (Nat.le_of_ble_eq_true rfl))) ?_; rw [upd_mem _ rfl]; simp only [vcells, setL, ll]
            refine WD.p (tb := tb) rfl rfl rfl rfl rfl ?_
            refine WD.fin rfl ?_
            refine WS.pseq rfl ?_
            refine WS.pregion rfl ?_
            refine WS.po (tb := tb) rfl rfl rfl rfl rfl ?_
            refine WS.pend rfl ?_
            refine WS.pcondT rfl rfl ?_
            refine WS.pseq rfl ?_
            refine WS.pregion rfl ?_
            refine WS.po (tb := tb) rfl rfl rfl rfl rfl ?_
            refine WS.po (tb := tb) rfl rfl rfl rfl rfl ?_
            refine WS.poW (tb := tb) rfl rfl rfl rfl rfl (by simp only [lo]; omega) (by simp only [Am.hi]; omega) ?_
            refine WS.poA (tb := tb) rfl rfl rfl rfl rfl (by simp only [List.drop_zero, List.drop_succ_cons, List.take_succ_cons, List.take_zero, rwPl, rwRn, rwVw]; exact rfl) ?_
            refine WS.poP (tb := tb) rfl rfl rfl rfl (step_P (evP_index rfl rfl rfl rfl rfl (by assumption) (by omega))) (by simp only [nl, nz, Nat.reduceAdd, Nat.reduceMul, Int.reduceToNat]; exact rfl) ?_
            refine WS.po0 (tb := tb) rfl rfl rfl rfl (step_H rfl rfl (evH_store rfl rfl rfl rfl rfl (Nat.zero_le _) rfl (by simp [vcells]) (by simp only [Pl_len, Rn_len, Vw_len, vcells, List.length_cons, List.length_nil, cellsI_len, cellsB_len, List.length_set, List.length_replicate, List.length_append, List.length_map, List.length_take, List.length_drop]; omega))) ?_; rw [upd_mem _ rfl]; simp only [vcells, List.set_cons_zero, List.set_cons_succ, hs, e1]; (try simp only [setL, List.set_cons_zero, List.set_cons_succ])
            refine WS.pend rfl ?_
            refine WS.pexit rfl rfl ?_
            refine WS.pregion rfl ?_
            refine WS.poW (tb := tb) rfl rfl rfl rfl rfl (by simp only [lo]; omega) (by simp only [Am.hi]; omega) ?_
            refine WS.po (tb := tb) rfl rfl rfl rfl rfl ?_
            refine WS.pend rfl ?_
            refine WS.nil ?_
            rcases o1 with _ | z1 <;> exact ⟨2, by omega, by omega, (SeenBy.seen (v := [0,1,2,3]) ⟨rfl, rfl, (by simp [viewP, okL, okV, mapL, mapV, mem_get, mapL_cellsR, okL_cellsR, lyM2, bkL, bkQ, slP, ptP, e, hl2]), (by first | exact rfl | exact own2_dist rfl rfl), (by simp only [slotsP, okV, okL, mapV, mapL, and_true, true_and, List.length_cons, List.length_nil, List.length_append, List.length_map, Nat.reduceAdd, Nat.reduceLT, lyM2, bkL, bkQ, slP, ptP, e, hl2]; repeat' (first | exact rfl | refine ⟨?_, ?_⟩ | exact lk_m rfl (hmp _ rfl) | exact lk_m rfl (hmp2 _ rfl) | exact hok _ (Nat.le_of_ble_eq_true rfl) | exact hok2 _ (Nat.le_of_ble_eq_true rfl) | exact lk_i rfl (by omega) | exact lk_sl rfl (by omega) (by omega) (by omega) | decide | omega))⟩)⟩
          · rw [if_neg hj, List.cons_append] at e
            have hj' : jn q r = false := by simpa using hj
            simp only [hj', Bool.false_eq_true, if_false] at J
            simp only [lyM2, ptP, bkQ, slP, bkL, List.cons_append, List.nil_append]
            refine WS.pseq rfl ?_
            refine WS.pregion rfl ?_
            refine WS.poB (tb := tb) true rfl rfl rfl rfl rfl rfl ?_
            refine WS.pend rfl ?_
            refine WS.pseq rfl ?_
            refine WS.pcondT rfl rfl ?_
            refine WS.pskip rfl ?_
            refine WS.pseq rfl ?_
            refine WS.pblock rfl ?_
            refine WS.pseq rfl ?_
            refine WS.pregion rfl ?_
            refine WS.poP (tb := tb) rfl rfl rfl rfl (step_P (evP_index rfl rfl rfl rfl rfl rfl (by omega))) (by simp only [Nat.zero_add, Nat.add_zero, Nat.reduceAdd, Nat.reduceMul, Nat.add_assoc, Nat.mul_one]; exact rfl) ?_
            refine WS.po (tb := tb) rfl rfl rfl rfl rfl ?_
            refine WS.po (tb := tb) rfl rfl rfl rfl rfl ?_
            refine WS.pend rfl ?_
            refine WS.pseq rfl ?_
            refine WS.pseq rfl ?_
            refine WS.pregion rfl ?_
            refine WS.po (tb := tb) rfl rfl rfl rfl rfl ?_
            refine WS.poB (tb := tb) false rfl rfl rfl rfl rfl rfl ?_
            refine WS.pend rfl ?_
            refine WS.pcondF rfl rfl ?_
            refine WS.pskip rfl ?_
            refine WS.pseq rfl ?_
            refine WS.pseq rfl ?_
            refine WS.pregion rfl ?_
            refine WS.po (tb := tb) rfl rfl rfl rfl rfl ?_
            refine WS.po (tb := tb) rfl rfl rfl rfl rfl ?_
            refine WS.po (tb := tb) rfl rfl rfl rfl rfl ?_
            refine WS.pend rfl ?_
            refine WS.pseq rfl ?_
            refine WS.pregion rfl ?_
            refine WS.po (tb := tb) rfl rfl rfl rfl rfl ?_
            refine WS.poDT (tb := tb) rfl rfl rfl rfl rfl (by omega) ?_
            refine WS.pend rfl ?_
            refine WS.pcondT rfl rfl ?_
            refine WS.pseq rfl ?_
            refine WS.pdrawF (tb := tb) [] J (by exact rfl) (by kernel_rfl) rfl (by kernel_rfl) (by kernel_rfl) (by (try simp only [mapL, mapV, ll]) <;> exact rfl) (by simp [okL, okV, e1]) rfl (by simp [embP, okL, okV, mapL, mapV, mem_next, mem_get, mem_ro, mapL_cellsR, okL_cellsR, e1]; fail_if_success exfalso) rfl (by first | trivial | simp [okV, okL]) (fun _ => ?_)
            refine WD.p (tb := tb) rfl rfl rfl rfl rfl ?_
            refine WD.p (tb := tb) rfl rfl rfl rfl rfl ?_
            refine WD.pW (tb := tb) rfl rfl rfl rfl rfl (by simp only [lo]; omega) (by simp only [Am.hi]; omega) ?_
            refine WD.pP (tb := tb) rfl rfl rfl rfl (evP_index rfl rfl rfl rfl rfl (by assumption) (by omega)) (by simp only [nl, nz, Nat.reduceAdd, Nat.reduceMul, Int.reduceToNat]; exact rfl) ?_
            refine WD.fRA (tb := tb) rfl rfl rfl rfl rfl (evR_loads rfl rfl rfl rfl rfl (by exact (cellsR_part0 (R := rwRn) hq (by exact Nat.le_of_ble_eq_true rfl))) (by exact rfl)) (by simp only [List.drop_zero, List.drop_succ_cons, List.take_succ_cons, List.take_zero, rwPl, rwRn, rwVw]; exact rfl) (mem_wf _ _) ?_
            refine WD.p (tb := tb) rfl rfl rfl rfl rfl ?_
            refine WD.p (tb := tb) rfl rfl rfl rfl rfl ?_
            refine WD.fRA (tb := tb) rfl rfl rfl rfl rfl rfl (by simp only [List.drop_zero, List.drop_succ_cons, List.take_succ_cons, List.take_zero, rwPl, rwRn, rwVw]; exact rfl) (mem_wf _ _) ?_
            refine WD.fC (tb := tb) rfl rfl rfl rfl rfl (fun _ => rfl) rfl rfl (fun _ => rfl) (Grow.lists rfl) ?_
            refine WD.p (tb := tb) rfl rfl rfl rfl rfl ?_
            refine WD.p (tb := tb) rfl rfl rfl rfl rfl ?_
            refine WD.p (tb := tb) rfl rfl rfl rfl rfl ?_
            refine WD.e3 (tb := tb) rfl rfl rfl rfl rfl rfl ?_; rw [new_mem]; simp only [ll, vcells, mem_next, Nat.zero_add, Nat.zero_mul, Nat.reduceAdd, reps, setL, Nat.reduceMul]
            refine WD.e0 (tb := tb) rfl rfl rfl rfl rfl (evE_H (evH_store rfl rfl rfl rfl rfl (Nat.zero_le _) rfl (by simp [vcells]) (Nat.le_of_ble_eq_true rfl))) ?_; rw [upd_mem _ rfl]; simp only [vcells, setL, ll]
            refine WD.p (tb := tb) rfl rfl rfl rfl rfl ?_
            refine WD.fin rfl ?_
            refine WS.pseq rfl ?_
            refine WS.pregion rfl ?_
            refine WS.po (tb := tb) rfl rfl rfl rfl rfl ?_
            refine WS.pend rfl ?_
            refine WS.pcondF rfl rfl ?_
            refine WS.pskip rfl ?_
            refine WS.pregion rfl ?_
            refine WS.po (tb := tb) rfl rfl rfl rfl rfl ?_
            refine WS.po (tb := tb) rfl rfl rfl rfl rfl ?_
            refine WS.po (tb := tb) rfl rfl rfl rfl rfl ?_
            refine WS.poA (tb := tb) rfl rfl rfl rfl rfl (by simp only [List.drop_zero, List.drop_succ_cons, List.take_succ_cons, List.take_zero, rwPl, rwRn, rwVw]; exact rfl) ?_
            refine WS.po (tb := tb) rfl rfl rfl rfl rfl ?_; rw [new_mem]; simp only [ll, vcells, mem_next, Nat.zero_add, Nat.zero_mul, Nat.reduceAdd, reps, setL, Nat.reduceMul]
            refine WS.po (tb := tb) rfl rfl rfl rfl (step_H rfl rfl (evH_append_open rfl rfl rfl rfl rfl rfl rfl rfl rfl (by omega) rfl (Nat.zero_le _) (by omega) (cellsAt_all rfl rfl) (by first | exact rfl | (simp only [Pl_len, Rn_len, Vw_len, vcells, List.length_cons, List.length_nil, cellsI_len, cellsB_len, List.length_set, List.length_replicate, List.length_append, List.length_map, List.length_take, List.length_drop]; omega) | omega) (by first | exact rfl | (simp only [Pl_len, Rn_len, Vw_len, vcells, List.length_cons, List.length_nil, cellsI_len, cellsB_len, List.length_set, List.length_replicate, List.length_append, List.length_map, List.length_take, List.length_drop]; omega) | omega) rfl (by omega))) ?_; (try rw [upd_mem _ rfl]); (try rw [new_mem]); (try simp only [List.set_cons_zero, List.set_cons_succ, List.cons_append, List.nil_append, mem_next, List.length_cons, List.length_nil, Nat.zero_add, Nat.reduceAdd, List.drop_zero, vcells, cellsI_app1, cellsB_app1, cellsI_cons, repsI, repsB, Pl_app1, Pl_reps, Rn_app1, Rn_reps, Vw_app1, Vw_reps, e1])
            refine WS.po (tb := tb) rfl rfl rfl rfl rfl ?_
            refine WS.pend rfl ?_
            refine WS.pregion rfl ?_
            refine WS.poW (tb := tb) rfl rfl rfl rfl rfl (by simp only [lo]; omega) (by simp only [Am.hi]; omega) ?_
            refine WS.po (tb := tb) rfl rfl rfl rfl rfl ?_
            refine WS.pend rfl ?_
            refine WS.nil ?_
            rcases o1 with _ | z1 <;> exact ⟨2, by omega, by omega, (SeenBy.seen (v := [0,1,2,6]) ⟨rfl, rfl, (by simp [viewP, okL, okV, mapL, mapV, mem_get, mapL_cellsR, okL_cellsR, lyM2, bkL, bkQ, slP, ptP, e, Rn_one1]), (by first | exact rfl | exact own2_dist rfl rfl), (by simp only [slotsP, okV, okL, mapV, mapL, and_true, true_and, List.length_cons, List.length_nil, List.length_append, List.length_map, Nat.reduceAdd, Nat.reduceLT, lyM2, bkL, bkQ, slP, ptP, e, Rn_one1]; repeat' (first | exact rfl | refine ⟨?_, ?_⟩ | exact lk_m rfl (hmp _ rfl) | exact lk_m rfl (hmp2 _ rfl) | exact hok _ (Nat.le_of_ble_eq_true rfl) | exact hok2 _ (Nat.le_of_ble_eq_true rfl) | exact lk_i rfl (by omega) | exact lk_sl rfl (by omega) (by omega) (by omega) | decide | omega))⟩)⟩
    have e : i = 2 := by omega
    subst e
    have e : lyT [o1, o2] 2 = layL [o1, o2] := rfl
    generalize hout : layL [o1, o2] = out at *
    simp only [lyM2, e, List.cons_append, List.nil_append]
    refine WS.pseq rfl ?_
    refine WS.pregion rfl ?_
    refine WS.poB (tb := tb) false rfl rfl rfl rfl rfl rfl ?_
    refine WS.pend rfl ?_
    refine WS.pseq rfl ?_
    refine WS.pcondF rfl rfl ?_
    refine WS.pout rfl rfl ?_
    rcases o1 with _ | z1 <;> rcases o2 with _ | z2 <;> rcases out with _ | ⟨x, out⟩ <;> exact ⟨rfl, (), trivial, (SeenBy.seen (v := [0,1,2,3]) ⟨rfl, rfl, (by simp [viewP, okL, okV, mapL, mapV, mem_get, mapL_cellsR, okL_cellsR, lyM2, bkL, bkQ, slP, ptP]), (by first | exact rfl | exact own2_dist rfl rfl), (by simp only [slotsP, okV, okL, mapV, mapL, and_true, true_and, List.length_cons, List.length_nil, List.length_append, List.length_map, Nat.reduceAdd, Nat.reduceLT, lyM2, bkL, bkQ, slP, ptP]; repeat' (first | exact rfl | refine ⟨?_, ?_⟩ | exact lk_m rfl (hmp _ rfl) | exact lk_m rfl (hmp2 _ rfl) | exact hok _ (Nat.le_of_ble_eq_true rfl) | exact hok2 _ (Nat.le_of_ble_eq_true rfl) | exact lk_i rfl (by omega) | exact lk_sl rfl (by omega) (by omega) (by omega) | decide | omega))⟩)⟩
  · rintro _ -
    generalize hout : layL [o1, o2] = out at *
    simp only [lyM2, List.cons_append, List.nil_append]
    refine WS.pseq rfl ?_
    refine WS.pregion rfl ?_
    refine WS.po (tb := tb) rfl rfl rfl rfl rfl ?_
    refine WS.po (tb := tb) rfl rfl rfl rfl rfl ?_
    refine WS.pend rfl ?_
    refine WS.pret rfl ⟨.inr rfl, _, rfl, ?_⟩
    rcases o1 with _ | z1 <;> rcases o2 with _ | z2 <;> rcases out with _ | ⟨x, out⟩ <;> exact ⟨_, rfl, [0,1,2,3], _, _, ⟨rfl, rfl, (by simp [viewP, okL, okV, mapL, mapV, mem_get, mapL_cellsR, okL_cellsR, lyM2, bkL, bkQ, slP, ptP]), rfl⟩, rfl, by simp [okV, slP], rfl, rfl⟩
def lyM3 (o1 o2 o3 : Option Rn) : List (Option Blk) := [some ⟨[ptP 1 o1, ptP 2 o2, ptP 3 o3], 65, false⟩, bkQ o1, bkQ o2, bkQ o3]
theorem lay3_walk (o1 o2 o3 : Option Rn) (hB : ∀ i : Nat, ∀ q ∈ lyT [o1, o2, o3] i, RB q) (hR : ∀ r, some r ∈ [o1, o2, o3] → RB r) :
    FM Try.prog 34 [.sl (some (0,0)) 3 3 false] (lyM3 o1 o2 o3) (fun v M' => v = slP 4 (layL [o1, o2, o3]) ∧ M' = lyM3 o1 o2 o3 ++ [bkL (layL [o1, o2, o3])]) := by
  refine FM.pbodyV (tb := tb) (fn := Try.f34) rfl rfl ?_
  simp only [argS, Nat.reduceAdd, lyM3, List.length_cons, List.length_nil]
  refine WS.pseq rfl ?_
  refine WS.pregion rfl ?_
  refine WS.po (tb := tb) rfl rfl rfl rfl rfl ?_
  refine WS.pend rfl ?_
  refine WS.pseq rfl ?_
  refine WS.pregion rfl ?_
  refine WS.po (tb := tb) rfl rfl rfl rfl rfl ?_
  refine WS.pend rfl ?_
  refine WS.pseq rfl ?_
  refine WS.pseq rfl ?_
  refine WS.pregion rfl ?_
  refine WS.po (tb := tb) rfl rfl rfl rfl rfl ?_
  refine WS.po (tb := tb) rfl rfl rfl rfl rfl ?_
  refine WS.po (tb := tb) rfl rfl rfl rfl rfl ?_
  refine WS.pend rfl ?_
  refine WS.pblock rfl ?_
  refine WS.ploopI (σ := Nat) (τ := Unit) (fun i => [(3, slP 4 (lyT [o1, o2, o3] i)), (9, .sl (some (0,0)) 3 3 false), (10, .i .i64 3), (11, .i .i64 i)]) (fun i => lyM3 o1 o2 o3 ++ [bkL (lyT [o1, o2, o3] i)]) (fun i => i ≤ 3) (fun i => 3 - i)
    (fun _ => [(3, slP 4 (layL [o1, o2, o3]))]) (fun _ => lyM3 o1 o2 o3 ++ [bkL (layL [o1, o2, o3])]) (fun _ => True) 0 [0,1,2,3,4] 0 rfl (Nat.zero_le _) (by
      rcases o1 with _ | r1 <;> rcases o2 with _ | r2 <;> rcases o3 with _ | r3 <;> exact ⟨rfl, rfl, (by simp [viewP, okL, okV, mapL, mapV, mem_get, mapL_cellsR, okL_cellsR, lyM3, bkL, bkQ, slP, ptP, lyT, layL, List.take_zero, List.foldl_nil]), (by first | exact rfl | exact own2_dist rfl rfl), (by simp only [slotsP, okV, okL, mapV, mapL, and_true, true_and, List.length_cons, List.length_nil, List.length_append, List.length_map, Nat.reduceAdd, Nat.reduceLT, lyM3, bkL, bkQ, slP, ptP, lyT, layL, List.take_zero, List.foldl_nil]; repeat' (first | exact rfl | refine ⟨?_, ?_⟩ | exact lk_m rfl (hmp _ rfl) | exact lk_m rfl (hmp2 _ rfl) | exact hok _ (Nat.le_of_ble_eq_true rfl) | exact hok2 _ (Nat.le_of_ble_eq_true rfl) | exact lk_i rfl (by omega) | exact lk_sl rfl (by omega) (by omega) (by omega) | decide | omega))⟩) rfl ?_ ?_
  · intro i hi
    have hBi := hB i
    have hlen : (lyT [o1, o2, o3] i).length ≤ i := Nat.le_trans (layL_len _) (by simp; omega)
    by_cases h0 : i = 0
    · subst h0
      rcases o1 with _ | r
      · have e : lyT [none, o2, o3] 1 = lyT [none, o2, o3] 0 := rfl
        generalize hout : lyT [none, o2, o3] 0 = out at *
        simp only [lyM3, ptP, bkQ, List.cons_append, List.nil_append]
        refine WS.pseq rfl ?_
        refine WS.pregion rfl ?_
        refine WS.poB (tb := tb) true rfl rfl rfl rfl rfl rfl ?_
        refine WS.pend rfl ?_
        refine WS.pseq rfl ?_
        refine WS.pcondT rfl rfl ?_
        refine WS.pskip rfl ?_
        refine WS.pseq rfl ?_
        refine WS.pblock rfl ?_
        refine WS.pseq rfl ?_
        refine WS.pregion rfl ?_
        refine WS.poP (tb := tb) rfl rfl rfl rfl (step_P (evP_index rfl rfl rfl rfl rfl rfl (by omega))) (by simp only [Nat.zero_add, Nat.add_zero, Nat.reduceAdd, Nat.reduceMul, Nat.add_assoc, Nat.mul_one]; exact rfl) ?_
        refine WS.po (tb := tb) rfl rfl rfl rfl rfl ?_
        refine WS.po (tb := tb) rfl rfl rfl rfl rfl ?_
        refine WS.pend rfl ?_
        refine WS.pseq rfl ?_
        refine WS.pseq rfl ?_
        refine WS.pregion rfl ?_
        refine WS.po (tb := tb) rfl rfl rfl rfl rfl ?_
        refine WS.poB (tb := tb) true rfl rfl rfl rfl rfl rfl ?_
        refine WS.pend rfl ?_
        refine WS.pcondT rfl rfl ?_
        refine WS.pexit rfl rfl ?_
        refine WS.pregion rfl ?_
        refine WS.poW (tb := tb) rfl rfl rfl rfl rfl (by simp only [lo]; omega) (by simp only [Am.hi]; omega) ?_
        refine WS.po (tb := tb) rfl rfl rfl rfl rfl ?_
        refine WS.pend rfl ?_
        refine WS.nil ?_
        rcases o2 with _ | z2 <;> rcases o3 with _ | z3 <;> rcases out with _ | ⟨x, out⟩ <;> exact ⟨1, by omega, by omega, (SeenBy.seen (v := [0,1,2,3,4]) ⟨rfl, rfl, (by simp [viewP, okL, okV, mapL, mapV, mem_get, mapL_cellsR, okL_cellsR, lyM3, bkL, bkQ, slP, ptP, e]), (by first | exact rfl | exact own2_dist rfl rfl), (by simp only [slotsP, okV, okL, mapV, mapL, and_true, true_and, List.length_cons, List.length_nil, List.length_append, List.length_map, Nat.reduceAdd, Nat.reduceLT, lyM3, bkL, bkQ, slP, ptP, e]; repeat' (first | exact rfl | refine ⟨?_, ?_⟩ | exact lk_m rfl (hmp _ rfl) | exact lk_m rfl (hmp2 _ rfl) | exact hok _ (Nat.le_of_ble_eq_true rfl) | exact hok2 _ (Nat.le_of_ble_eq_true rfl) | exact lk_i rfl (by omega) | exact lk_sl rfl (by omega) (by omega) (by omega) | decide | omega))⟩)⟩
      · have Hr := hR r (by simp)
        have e : lyT [some r, o2, o3] 1 = layS (lyT [some r, o2, o3] 0) (some r) := rfl
        simp only [layS] at e
        generalize hout : lyT [some r, o2, o3] 0 = out at *
        rcases out with _ | ⟨x, out⟩
        · simp only [List.length_nil, List.getElem?_nil, List.nil_append] at e
          simp only [lyM3, ptP, bkQ, slP, bkL, List.cons_append, List.nil_append]
          refine WS.pseq rfl ?_
          refine WS.pregion rfl ?_
          refine WS.poB (tb := tb) true rfl rfl rfl rfl rfl rfl ?_
          refine WS.pend rfl ?_
          refine WS.pseq rfl ?_
          refine WS.pcondT rfl rfl ?_
          refine WS.pskip rfl ?_
          refine WS.pseq rfl ?_
          refine WS.pblock rfl ?_
          refine WS.pseq rfl ?_
          refine WS.pregion rfl ?_
          refine WS.poP (tb := tb) rfl rfl rfl rfl (step_P (evP_index rfl rfl rfl rfl rfl rfl (by omega))) (by simp only [Nat.zero_add, Nat.add_zero, Nat.reduceAdd, Nat.reduceMul, Nat.add_assoc, Nat.mul_one]; exact rfl) ?_
          refine WS.po (tb := tb) rfl rfl rfl rfl rfl ?_
          refine WS.po (tb := tb) rfl rfl rfl rfl rfl ?_
          refine WS.pend rfl ?_
          refine WS.pseq rfl ?_
          refine WS.pseq rfl ?_
          refine WS.pregion rfl ?_
          refine WS.po (tb := tb) rfl rfl rfl rfl rfl ?_
          refine WS.poB (tb := tb) false rfl rfl rfl rfl rfl rfl ?_
          refine WS.pend rfl ?_
          refine WS.pcondF rfl rfl ?_
          refine WS.pskip rfl ?_
          refine WS.pseq rfl ?_
          refine WS.pseq rfl ?_
          refine WS.pregion rfl ?_
          refine WS.po (tb := tb) rfl rfl rfl rfl rfl ?_
          refine WS.po (tb := tb) rfl rfl rfl rfl rfl ?_
          refine WS.po (tb := tb) rfl rfl rfl rfl rfl ?_
          refine WS.pend rfl ?_
          refine WS.pseq rfl ?_
          refine WS.pregion rfl ?_
          refine WS.po (tb := tb) rfl rfl rfl rfl rfl ?_
          refine WS.poB (tb := tb) false rfl rfl rfl rfl rfl rfl ?_
          refine WS.pend rfl ?_
          refine WS.pcondF rfl rfl ?_
          refine WS.pskip rfl ?_
          refine WS.pregion rfl ?_
          refine WS.po (tb := tb) rfl rfl rfl rfl rfl ?_
          refine WS.po (tb := tb) rfl rfl rfl rfl rfl ?_
          refine WS.po (tb := tb) rfl rfl rfl rfl rfl ?_
          refine WS.poA (tb := tb) rfl rfl rfl rfl rfl (by simp only [List.drop_zero, List.drop_succ_cons, List.take_succ_cons, List.take_zero, rwPl, rwRn, rwVw]; exact rfl) ?_
          refine WS.po (tb := tb) rfl rfl rfl rfl rfl ?_; rw [new_mem]; simp only [ll, vcells, mem_next, Nat.zero_add, Nat.zero_mul, Nat.reduceAdd, reps, setL, Nat.reduceMul]
          refine WS.po (tb := tb) rfl rfl rfl rfl (step_H rfl rfl (evH_append_nil rfl rfl rfl rfl rfl rfl rfl rfl rfl rfl (by omega) (by omega) (cellsAt_all rfl rfl) (by first | exact rfl | (simp only [Pl_len, Rn_len, Vw_len, vcells, List.length_cons, List.length_nil, cellsI_len, cellsB_len, List.length_set, List.length_replicate, List.length_append, List.length_map, List.length_take, List.length_drop]; omega) | omega) (by omega))) ?_; (try rw [upd_mem _ rfl]); (try rw [new_mem]); (try simp only [List.set_cons_zero, List.set_cons_succ, List.cons_append, List.nil_append, mem_next, List.length_cons, List.length_nil, Nat.zero_add, Nat.reduceAdd, List.drop_zero, vcells, cellsI_app1, cellsB_app1, cellsI_cons, repsI, repsB, Pl_app1, Pl_reps, Rn_app1, Rn_reps, Vw_app1, Vw_reps])
          refine WS.po (tb := tb) rfl rfl rfl rfl rfl ?_
          refine WS.pend rfl ?_
          refine WS.pregion rfl ?_
          refine WS.poW (tb := tb) rfl rfl rfl rfl rfl (by simp only [lo]; omega) (by simp only [Am.hi]; omega) ?_
          refine WS.po (tb := tb) rfl rfl rfl rfl rfl ?_
          refine WS.pend rfl ?_
          refine WS.nil ?_
          rcases o2 with _ | z2 <;> rcases o3 with _ | z3 <;> exact ⟨1, by omega, by omega, (SeenBy.seen (v := [0,1,2,3,6]) ⟨rfl, rfl, (by simp [viewP, okL, okV, mapL, mapV, mem_get, mapL_cellsR, okL_cellsR, lyM3, bkL, bkQ, slP, ptP, e, Rn_one1]), (by first | exact rfl | exact own2_dist rfl rfl), (by simp only [slotsP, okV, okL, mapV, mapL, and_true, true_and, List.length_cons, List.length_nil, List.length_append, List.length_map, Nat.reduceAdd, Nat.reduceLT, lyM3, bkL, bkQ, slP, ptP, e, Rn_one1]; repeat' (first | exact rfl | refine ⟨?_, ?_⟩ | exact lk_m rfl (hmp _ rfl) | exact lk_m rfl (hmp2 _ rfl) | exact hok _ (Nat.le_of_ble_eq_true rfl) | exact hok2 _ (Nat.le_of_ble_eq_true rfl) | exact lk_i rfl (by omega) | exact lk_sl rfl (by omega) (by omega) (by omega) | decide | omega))⟩)⟩
        · simp at hlen
    by_cases h1 : i = 1
    · subst h1
      rcases o2 with _ | r
      · have e : lyT [o1, none, o3] 2 = lyT [o1, none, o3] 1 := rfl
        generalize hout : lyT [o1, none, o3] 1 = out at *
        simp only [lyM3, ptP, bkQ, List.cons_append, List.nil_append]
        refine WS.pseq rfl ?_
        refine WS.pregion rfl ?_
        refine WS.poB (tb := tb) true rfl rfl rfl rfl rfl rfl ?_
        refine WS.pend rfl ?_
        refine WS.pseq rfl ?_
        refine WS.pcondT rfl rfl ?_
        refine WS.pskip rfl ?_
        refine WS.pseq rfl ?_
        refine WS.pblock rfl ?_
        refine WS.pseq rfl ?_
        refine WS.pregion rfl ?_
        refine WS.poP (tb := tb) rfl rfl rfl rfl (step_P (evP_index rfl rfl rfl rfl rfl rfl (by omega))) (by simp only [Nat.zero_add, Nat.add_zero, Nat.reduceAdd, Nat.reduceMul, Nat.add_assoc, Nat.mul_one]; exact rfl) ?_
        refine WS.po (tb := tb) rfl rfl rfl rfl rfl ?_
        refine WS.po (tb := tb) rfl rfl rfl rfl rfl ?_
        refine WS.pend rfl ?_
        refine WS.pseq rfl ?_
        refine WS.pseq rfl ?_
        refine WS.pregion rfl ?_
        refine WS.po (tb := tb) rfl rfl rfl rfl rfl ?_
        refine WS.poB (tb := tb) true rfl rfl rfl rfl rfl rfl ?_
        refine WS.pend rfl ?_
        refine WS.pcondT rfl rfl ?_
        refine WS.pexit rfl rfl ?_
        refine WS.pregion rfl ?_
        refine WS.poW (tb := tb) rfl rfl rfl rfl rfl (by simp only [lo]; omega) (by simp only [Am.hi]; omega) ?_
        refine WS.po (tb := tb) rfl rfl rfl rfl rfl ?_
        refine WS.pend rfl ?_
        refine WS.nil ?_
        rcases o1 with _ | z1 <;> rcases o3 with _ | z3 <;> rcases out with _ | ⟨x, out⟩ <;> exact ⟨2, by omega, by omega, (SeenBy.seen (v := [0,1,2,3,4]) ⟨rfl, rfl, (by simp [viewP, okL, okV, mapL, mapV, mem_get, mapL_cellsR, okL_cellsR, lyM3, bkL, bkQ, slP, ptP, e]), (by first | exact rfl | exact own2_dist rfl rfl), (by simp only [slotsP, okV, okL, mapV, mapL, and_true, true_and, List.length_cons, List.length_nil, List.length_append, List.length_map, Nat.reduceAdd, Nat.reduceLT, lyM3, bkL, bkQ, slP, ptP, e]; repeat' (first | exact rfl | refine ⟨?_, ?_⟩ | exact lk_m rfl (hmp _ rfl) | exact lk_m rfl (hmp2 _ rfl) | exact hok _ (Nat.le_of_ble_eq_true rfl) | exact hok2 _ (Nat.le_of_ble_eq_true rfl) | exact lk_i rfl (by omega) | exact lk_sl rfl (by omega) (by omega) (by omega) | decide | omega))⟩)⟩
      · have Hr := hR r (by simp)
        have e : lyT [o1, some r, o3] 2 = layS (lyT [o1, some r, o3] 1) (some r) := rfl
        simp only [layS] at e
        generalize hout : lyT [o1, some r, o3] 1 = out at *
        rcases out with _ | ⟨x, out⟩
        · simp only [List.length_nil, List.getElem?_nil, List.nil_append] at e
          simp only [lyM3, ptP, bkQ, slP, bkL, List.cons_append, List.nil_append]
          refine WS.pseq rfl ?_
          refine WS.pregion rfl ?_
          refine WS.poB (tb := tb) true rfl rfl rfl rfl rfl rfl ?_
          refine WS.pend rfl ?_
          refine WS.pseq rfl ?_
          refine WS.pcondT rfl rfl ?_
          refine WS.pskip rfl ?_
          refine WS.pseq rfl ?_
          refine WS.pblock rfl ?_
          refine WS.pseq rfl ?_
          refine WS.pregion rfl ?_
          refine WS.poP (tb := tb) rfl rfl rfl rfl (step_P (evP_index rfl rfl rfl rfl rfl rfl (by omega))) (by simp only [Nat.zero_add, Nat.add_zero, Nat.reduceAdd, Nat.reduceMul, Nat.add_assoc, Nat.mul_one]; exact rfl) ?_
          refine WS.po (tb := tb) rfl rfl rfl rfl rfl ?_
          refine WS.po (tb := tb) rfl rfl rfl rfl rfl ?_
          refine WS.pend rfl ?_
          refine WS.pseq rfl ?_
          refine WS.pseq rfl ?_
          refine WS.pregion rfl ?_
          refine WS.po (tb := tb) rfl rfl rfl rfl rfl ?_
          refine WS.poB (tb := tb) false rfl rfl rfl rfl rfl rfl ?_
          refine WS.pend rfl ?_
          refine WS.pcondF rfl rfl ?_
          refine WS.pskip rfl ?_
          refine WS.pseq rfl ?_
          refine WS.pseq rfl ?_
          refine WS.pregion rfl ?_
          refine WS.po (tb := tb) rfl rfl rfl rfl rfl ?_
          refine WS.po (tb := tb) rfl rfl rfl rfl rfl ?_
          refine WS.po (tb := tb) rfl rfl rfl rfl rfl ?_
          refine WS.pend rfl ?_
          refine WS.pseq rfl ?_
          refine WS.pregion rfl ?_
          refine WS.po (tb := tb) rfl rfl rfl rfl rfl ?_
          refine WS.poB (tb := tb) false rfl rfl rfl rfl rfl rfl ?_
          refine WS.pend rfl ?_
          refine WS.pcondF rfl rfl ?_
          refine WS.pskip rfl ?_
          refine WS.pregion rfl ?_
          refine WS.po (tb := tb) rfl rfl rfl rfl rfl ?_
          refine WS.po (tb := tb) rfl rfl rfl rfl rfl ?_
          refine WS.po (tb := tb) rfl rfl rfl rfl rfl ?_
          refine WS.poA (tb := tb) rfl rfl rfl rfl rfl (by simp only [List.drop_zero, List.drop_succ_cons, List.take_succ_cons, List.take_zero, rwPl, rwRn, rwVw]; exact rfl) ?_
          refine WS.po (tb := tb) rfl rfl rfl rfl rfl ?_; rw [new_mem]; simp only [ll, vcells, mem_next, Nat.zero_add, Nat.zero_mul, Nat.reduceAdd, reps, setL, Nat.reduceMul]
          refine WS.po (tb := tb) rfl rfl rfl rfl (step_H rfl rfl (evH_append_nil rfl rfl rfl rfl rfl rfl rfl rfl rfl rfl (by omega) (by omega) (cellsAt_all rfl rfl) (by first | exact rfl | (simp only [Pl_len, Rn_len, Vw_len, vcells, List.length_cons, List.length_nil, cellsI_len, cellsB_len, List.length_set, List.length_replicate, List.length_append, List.length_map, List.length_take, List.length_drop]; omega) | omega) (by omega))) ?_; (try rw [upd_mem _ rfl]); (try rw [new_mem]); (try simp only [List.set_cons_zero, List.set_cons_succ, List.cons_append, List.nil_append, mem_next, List.length_cons, List.length_nil, Nat.zero_add, Nat.reduceAdd, List.drop_zero, vcells, cellsI_app1, cellsB_app1, cellsI_cons, repsI, repsB, Pl_app1, Pl_reps, Rn_app1, Rn_reps, Vw_app1, Vw_reps])
          refine WS.po (tb := tb) rfl rfl rfl rfl rfl ?_
          refine WS.pend rfl ?_
          refine WS.pregion rfl ?_
          refine WS.poW (tb := tb) rfl rfl rfl rfl rfl (by simp only [lo]; omega) (by simp only [Am.hi]; omega) ?_
          refine WS.po (tb := tb) rfl rfl rfl rfl rfl ?_
          refine WS.pend rfl ?_
          refine WS.nil ?_
          rcases o1 with _ | z1 <;> rcases o3 with _ | z3 <;> exact ⟨2, by omega, by omega, (SeenBy.seen (v := [0,1,2,3,6]) ⟨rfl, rfl, (by simp [viewP, okL, okV, mapL, mapV, mem_get, mapL_cellsR, okL_cellsR, lyM3, bkL, bkQ, slP, ptP, e, Rn_one1]), (by first | exact rfl | exact own2_dist rfl rfl), (by simp only [slotsP, okV, okL, mapV, mapL, and_true, true_and, List.length_cons, List.length_nil, List.length_append, List.length_map, Nat.reduceAdd, Nat.reduceLT, lyM3, bkL, bkQ, slP, ptP, e, Rn_one1]; repeat' (first | exact rfl | refine ⟨?_, ?_⟩ | exact lk_m rfl (hmp _ rfl) | exact lk_m rfl (hmp2 _ rfl) | exact hok _ (Nat.le_of_ble_eq_true rfl) | exact hok2 _ (Nat.le_of_ble_eq_true rfl) | exact lk_i rfl (by omega) | exact lk_sl rfl (by omega) (by omega) (by omega) | decide | omega))⟩)⟩
        · obtain ⟨q, hq⟩ : ∃ q, (x :: out)[out.length]? = some q := ⟨_, List.getElem?_eq_getElem (by simp)⟩
          have Hq := hBi q (List.mem_of_getElem? hq)
          have J := join_walk q r Hq Hr
          simp only [List.length_cons] at hlen
          have e1 : ((out.length : Int) + 1) - 1 = ((out.length : Nat) : Int) := by omega
          have hol : out.length ≤ 10 := by omega
          simp only [List.length_cons, Nat.add_sub_cancel, hq] at e
          by_cases hj : jn q r = true
          · rw [if_pos hj] at e
            simp only [hj, if_true] at J
            have hs : setL (cellsR rwRn (x :: out)) (out.length * 3) [.i .i64 q.a, .i .i64 (q.b + r.b), .i .i64 q.c] = cellsR rwRn ((x :: out).set out.length ⟨q.a, q.b + r.b, q.c⟩) := Rn_set hq _ _ _
            obtain ⟨x2, out2, hx2⟩ : ∃ x2 out2, (x :: out).set out.length ⟨q.a, q.b + r.b, q.c⟩ = x2 :: out2 := by
              cases hset : (x :: out).set out.length ⟨q.a, q.b + r.b, q.c⟩ with
              | nil => have := congrArg List.length hset; simp at this
              | cons x2 out2 => exact ⟨x2, out2, rfl⟩
            have hl2 : out2.length = out.length := by have := congrArg List.length hx2; simp at this; omega
            rw [hx2] at e hs
            simp only [lyM3, ptP, bkQ, slP, bkL, List.cons_append, List.nil_append]
            refine WS.pseq rfl ?_
            refine WS.pregion rfl ?_
            refine WS.poB (tb := tb) true rfl rfl rfl rfl rfl rfl ?_
            refine WS.pend rfl ?_
            refine WS.pseq rfl ?_
            refine WS.pcondT rfl rfl ?_
            refine WS.pskip rfl ?_
            refine WS.pseq rfl ?_
            refine WS.pblock rfl ?_
            refine WS.pseq rfl ?_
            refine WS.pregion rfl ?_
            refine WS.poP (tb := tb) rfl rfl rfl rfl (step_P (evP_index rfl rfl rfl rfl rfl rfl (by omega))) (by simp only [Nat.zero_add, Nat.add_zero, Nat.reduceAdd, Nat.reduceMul, Nat.add_assoc, Nat.mul_one]; exact rfl) ?_
            refine WS.po (tb := tb) rfl rfl rfl rfl rfl ?_
            refine WS.po (tb := tb) rfl rfl rfl rfl rfl ?_
            refine WS.pend rfl ?_
            refine WS.pseq rfl ?_
            refine WS.pseq rfl ?_
            refine WS.pregion rfl ?_
            refine WS.po (tb := tb) rfl rfl rfl rfl rfl ?_
            refine WS.poB (tb := tb) false rfl rfl rfl rfl rfl rfl ?_
            refine WS.pend rfl ?_
            refine WS.pcondF rfl rfl ?_
            refine WS.pskip rfl ?_
            refine WS.pseq rfl ?_
            refine WS.pseq rfl ?_
            refine WS.pregion rfl ?_
            refine WS.po (tb := tb) rfl rfl rfl rfl rfl ?_
            refine WS.po (tb := tb) rfl rfl rfl rfl rfl ?_
            refine WS.po (tb := tb) rfl rfl rfl rfl rfl ?_
            refine WS.pend rfl ?_
            refine WS.pseq rfl ?_
            refine WS.pregion rfl ?_
            refine WS.po (tb := tb) rfl rfl rfl rfl rfl ?_
            refine WS.poDT (tb := tb) rfl rfl rfl rfl rfl (by omega) ?_
            refine WS.pend rfl ?_
            refine WS.pcondT rfl rfl ?_
            refine WS.pseq rfl ?_
            refine WS.pdrawF (tb := tb) [] J (by exact rfl) (by kernel_rfl) rfl (by kernel_rfl) (by kernel_rfl) (by (try simp only [mapL, mapV, ll]) <;> exact rfl) (by simp [okL, okV, e1]) rfl (by simp [embP, okL, okV, mapL, mapV, mem_next, mem_get, mem_ro, mapL_cellsR, okL_cellsR, e1]; fail_if_success exfalso) rfl (by first | trivial | simp [okV, okL]) (fun _ => ?_)
            refine WD.p (tb := tb) rfl rfl rfl rfl rfl ?_
            refine WD.p (tb := tb) rfl rfl rfl rfl rfl ?_
            refine WD.pW (tb := tb) rfl rfl rfl rfl rfl (by simp only [lo]; omega) (by simp only [Am.hi]; omega) ?_
            refine WD.pP (tb := tb) rfl rfl rfl rfl (evP_index rfl rfl rfl rfl rfl (by assumption) (by omega)) (by simp only [nl, nz, Nat.reduceAdd, Nat.reduceMul, Int.reduceToNat]; exact rfl) ?_
            refine WD.fRA (tb := tb) rfl rfl rfl rfl rfl (evR_loads rfl rfl rfl rfl rfl (by exact (cellsR_part0 (R := rwRn) hq (by exact Nat.le_of_ble_eq_true rfl))) (by exact rfl)) (by simp only [List.drop_zero, List.drop_succ_cons, List.take_succ_cons, List.take_zero, rwPl, rwRn, rwVw]; exact rfl) (mem_wf _ _) ?_
            refine WD.p (tb := tb) rfl rfl rfl rfl rfl ?_
            refine WD.p (tb := tb) rfl rfl rfl rfl rfl ?_
            refine WD.fRA (tb := tb) rfl rfl rfl rfl rfl rfl (by simp only [List.drop_zero, List.drop_succ_cons, List.take_succ_cons, List.take_zero, rwPl, rwRn, rwVw]; exact rfl) (mem_wf _ _) ?_
            refine WD.fC (tb := tb) rfl rfl rfl rfl rfl (fun _ => rfl) rfl rfl (fun _ => rfl) (Grow.lists rfl) ?_
            refine WD.p (tb := tb) rfl rfl rfl rfl rfl ?_
            refine WD.p (tb := tb) rfl rfl rfl rfl rfl ?_
            refine WD.p (tb := tb) rfl rfl rfl rfl rfl ?_
            refine WD.e3 (tb := tb) rfl rfl rfl rfl rfl rfl ?_; rw [new_mem]; simp only [ll, vcells, mem_next, Nat.zero_add, Nat.zero_mul, Nat.reduceAdd, reps, setL, Nat.reduceMul]
            refine WD.e0 (tb := tb) rfl rfl rfl rfl rfl (evE_H (evH_store rfl rfl rfl rfl rfl (Nat.zero_le _) rfl (by simp [vcells]) (Nat.le_of_ble_eq_true rfl))) ?_; rw [upd_mem _ rfl]; simp only [vcells, setL, ll]
            refine WD.p (tb := tb) rfl rfl rfl rfl rfl ?_
            refine WD.fin rfl ?_
            refine WS.pseq rfl ?_
            refine WS.pregion rfl ?_
            refine WS.po (tb := tb) rfl rfl rfl rfl rfl ?_
            refine WS.pend rfl ?_
            refine WS.pcondT rfl rfl ?_
            refine WS.pseq rfl ?_
            refine WS.pregion rfl ?_
            refine WS.po (tb := tb) rfl rfl rfl rfl rfl ?_
            refine WS.po (tb := tb) rfl rfl rfl rfl rfl ?_
            refine WS.poW (tb := tb) rfl rfl rfl rfl rfl (by simp only [lo]; omega) (by simp only [Am.hi]; omega) ?_
            refine WS.poA (tb := tb) rfl rfl rfl rfl rfl (by simp only [List.drop_zero, List.drop_succ_cons, List.take_succ_cons, List.take_zero, rwPl, rwRn, rwVw]; exact rfl) ?_
            refine WS.poP (tb := tb) rfl rfl rfl rfl (step_P (evP_index rfl rfl rfl rfl rfl (by assumption) (by omega))) (by simp only [nl, nz, Nat.reduceAdd, Nat.reduceMul, Int.reduceToNat]; exact rfl) ?_
            refine WS.po0 (tb := tb) rfl rfl rfl rfl (step_H rfl rfl (evH_store rfl rfl rfl rfl rfl (Nat.zero_le _) rfl (by simp [vcells]) (by simp only [Pl_len, Rn_len, Vw_len, vcells, List.length_cons, List.length_nil, cellsI_len, cellsB_len, List.length_set, List.length_replicate, List.length_append, List.length_map, List.length_take, List.length_drop]; omega))) ?_; rw [upd_mem _ rfl]; simp only [vcells, List.set_cons_zero, List.set_cons_succ, hs, e1]; (try simp only [setL, List.set_cons_zero, List.set_cons_succ])
            refine WS.pend rfl ?_
            refine WS.pexit rfl rfl ?_
            refine WS.pregion rfl ?_
            refine WS.poW (tb := tb) rfl rfl rfl rfl rfl (by simp only [lo]; omega) (by simp only [Am.hi]; omega) ?_
            refine WS.po (tb := tb) rfl rfl rfl rfl rfl ?_
            refine WS.pend rfl ?_
            refine WS.nil ?_
            rcases o1 with _ | z1 <;> rcases o3 with _ | z3 <;> exact ⟨2, by omega, by omega, (SeenBy.seen (v := [0,1,2,3,4]) ⟨rfl, rfl, (by simp [viewP, okL, okV, mapL, mapV, mem_get, mapL_cellsR, okL_cellsR, lyM3, bkL, bkQ, slP, ptP, e, hl2]), (by first | exact rfl | exact own2_dist rfl rfl), (by simp only [slotsP, okV, okL, mapV, mapL, and_true, true_and, List.length_cons, List.length_nil, List.length_append, List.length_map, Nat.reduceAdd, Nat.reduceLT, lyM3, bkL, bkQ, slP, ptP, e, hl2]; repeat' (first | exact rfl | refine ⟨?_, ?_⟩ | exact lk_m rfl (hmp _ rfl) | exact lk_m rfl (hmp2 _ rfl) | exact hok _ (Nat.le_of_ble_eq_true rfl) | exact hok2 _ (Nat.le_of_ble_eq_true rfl) | exact lk_i rfl (by omega) | exact lk_sl rfl (by omega) (by omega) (by omega) | decide | omega))⟩)⟩
          · rw [if_neg hj, List.cons_append] at e
            have hj' : jn q r = false := by simpa using hj
            simp only [hj', Bool.false_eq_true, if_false] at J
            simp only [lyM3, ptP, bkQ, slP, bkL, List.cons_append, List.nil_append]
            refine WS.pseq rfl ?_
            refine WS.pregion rfl ?_
            refine WS.poB (tb := tb) true rfl rfl rfl rfl rfl rfl ?_
            refine WS.pend rfl ?_
            refine WS.pseq rfl ?_
            refine WS.pcondT rfl rfl ?_
            refine WS.pskip rfl ?_
            refine WS.pseq rfl ?_
            refine WS.pblock rfl ?_
            refine WS.pseq rfl ?_
            refine WS.pregion rfl ?_
            refine WS.poP (tb := tb) rfl rfl rfl rfl (step_P (evP_index rfl rfl rfl rfl rfl rfl (by omega))) (by simp only [Nat.zero_add, Nat.add_zero, Nat.reduceAdd, Nat.reduceMul, Nat.add_assoc, Nat.mul_one]; exact rfl) ?_
            refine WS.po (tb := tb) rfl rfl rfl rfl rfl ?_
            refine WS.po (tb := tb) rfl rfl rfl rfl rfl ?_
            refine WS.pend rfl ?_
            refine WS.pseq rfl ?_
            refine WS.pseq rfl ?_
            refine WS.pregion rfl ?_
            refine WS.po (tb := tb) rfl rfl rfl rfl rfl ?_
            refine WS.poB (tb := tb) false rfl rfl rfl rfl rfl rfl ?_
            refine WS.pend rfl ?_
            refine WS.pcondF rfl rfl ?_
            refine WS.pskip rfl ?_
            refine WS.pseq rfl ?_
            refine WS.pseq rfl ?_
            refine WS.pregion rfl ?_
            refine WS.po (tb := tb) rfl rfl rfl rfl rfl ?_
            refine WS.po (tb := tb) rfl rfl rfl rfl rfl ?_
            refine WS.po (tb := tb) rfl rfl rfl rfl rfl ?_
            refine WS.pend rfl ?_
            refine WS.pseq rfl ?_
            refine WS.pregion rfl ?_
            refine WS.po (tb := tb) rfl rfl rfl rfl rfl ?_
            refine WS.poDT (tb := tb) rfl rfl rfl rfl rfl (by omega) ?_
            refine WS.pend rfl ?_
            refine WS.pcondT rfl rfl ?_
            refine WS.pseq rfl ?_
            refine WS.pdrawF (tb := tb) [] J (by exact rfl) (by kernel_rfl) rfl (by kernel_rfl) (by kernel_rfl) (by (try simp only [mapL, mapV, ll]) <;> exact rfl) (by simp [okL, okV, e1]) rfl (by simp [embP, okL, okV, mapL, mapV, mem_next, mem_get, mem_ro, mapL_cellsR, okL_cellsR, e1]; fail_if_success exfalso) rfl (by first | trivial | simp [okV, okL]) (fun _ => ?_)
            refine WD.p (tb := tb) rfl rfl rfl rfl rfl ?_
            refine WD.p (tb := tb) rfl rfl rfl rfl rfl ?_
            refine WD.pW (tb := tb) rfl rfl rfl rfl rfl (by simp only [lo]; omega) (by simp only [Am.hi]; omega) ?_
            refine WD.pP (tb := tb) rfl rfl rfl rfl (evP_index rfl rfl rfl rfl rfl (by assumption) (by omega)) (by simp only [nl, nz, Nat.reduceAdd, Nat.reduceMul, Int.reduceToNat]; exact rfl) ?_
            refine WD.fRA (tb := tb) rfl rfl rfl rfl rfl (evR_loads rfl rfl rfl rfl rfl (by exact (cellsR_part0 (R := rwRn) hq (by exact Nat.le_of_ble_eq_true rfl))) (by exact rfl)) (by simp only [List.drop_zero, List.drop_succ_cons, List.take_succ_cons, List.take_zero, rwPl, rwRn, rwVw]; exact rfl) (mem_wf _ _) ?_
            refine WD.p (tb := tb) rfl rfl rfl rfl rfl ?_
            refine WD.p (tb := tb) rfl rfl rfl rfl rfl ?_
            refine WD.fRA (tb := tb) rfl rfl rfl rfl rfl rfl (by simp only [List.drop_zero, List.drop_succ_cons, List.take_succ_cons, List.take_zero, rwPl, rwRn, rwVw]; exact rfl) (mem_wf _ _) ?_
            refine WD.fC (tb := tb) rfl rfl rfl rfl rfl (fun _ => rfl) rfl rfl (fun _ => rfl) (Grow.lists rfl) ?_
            refine WD.p (tb := tb) rfl rfl rfl rfl rfl ?_
            refine WD.p (tb := tb) rfl rfl rfl rfl rfl ?_
            refine WD.p (tb := tb) rfl rfl rfl rfl rfl ?_
            refine WD.e3 (tb := tb) rfl rfl rfl rfl rfl rfl ?_; rw [new_mem]; simp only [ll, vcells, mem_next, Nat.zero_add, Nat.zero_mul, Nat.reduceAdd, reps, setL, Nat.reduceMul]
            refine WD.e0 (tb := tb) rfl rfl rfl rfl rfl (evE_H (evH_store rfl rfl rfl rfl rfl (Nat.zero_le _) rfl (by simp [vcells]) (Nat.le_of_ble_eq_true rfl))) ?_; rw [upd_mem _ rfl]; simp only [vcells, setL, ll]
            refine WD.p (tb := tb) rfl rfl rfl rfl rfl ?_
            refine WD.fin rfl ?_
            refine WS.pseq rfl ?_
            refine WS.pregion rfl ?_
            refine WS.po (tb := tb) rfl rfl rfl rfl rfl ?_
            refine WS.pend rfl ?_
            refine WS.pcondF rfl rfl ?_
            refine WS.pskip rfl ?_
            refine WS.pregion rfl ?_
            refine WS.po (tb := tb) rfl rfl rfl rfl rfl ?_
            refine WS.po (tb := tb) rfl rfl rfl rfl rfl ?_
            refine WS.po (tb := tb) rfl rfl rfl rfl rfl ?_
            refine WS.poA (tb := tb) rfl rfl rfl rfl rfl (by simp only [List.drop_zero, List.drop_succ_cons, List.take_succ_cons, List.take_zero, rwPl, rwRn, rwVw]; exact rfl) ?_
            refine WS.po (tb := tb) rfl rfl rfl rfl rfl ?_; rw [new_mem]; simp only [ll, vcells, mem_next, Nat.zero_add, Nat.zero_mul, Nat.reduceAdd, reps, setL, Nat.reduceMul]
            refine WS.po (tb := tb) rfl rfl rfl rfl (step_H rfl rfl (evH_append_open rfl rfl rfl rfl rfl rfl rfl rfl rfl (by omega) rfl (Nat.zero_le _) (by omega) (cellsAt_all rfl rfl) (by first | exact rfl | (simp only [Pl_len, Rn_len, Vw_len, vcells, List.length_cons, List.length_nil, cellsI_len, cellsB_len, List.length_set, List.length_replicate, List.length_append, List.length_map, List.length_take, List.length_drop]; omega) | omega) (by first | exact rfl | (simp only [Pl_len, Rn_len, Vw_len, vcells, List.length_cons, List.length_nil, cellsI_len, cellsB_len, List.length_set, List.length_replicate, List.length_append, List.length_map, List.length_take, List.length_drop]; omega) | omega) rfl (by omega))) ?_; (try rw [upd_mem _ rfl]); (try rw [new_mem]); (try simp only [List.set_cons_zero, List.set_cons_succ, List.cons_append, List.nil_append, mem_next, List.length_cons, List.length_nil, Nat.zero_add, Nat.reduceAdd, List.drop_zero, vcells, cellsI_app1, cellsB_app1, cellsI_cons, repsI, repsB, Pl_app1, Pl_reps, Rn_app1, Rn_reps, Vw_app1, Vw_reps, e1])
            refine WS.po (tb := tb) rfl rfl rfl rfl rfl ?_
            refine WS.pend rfl ?_
            refine WS.pregion rfl ?_
            refine WS.poW (tb := tb) rfl rfl rfl rfl rfl (by simp only [lo]; omega) (by simp only [Am.hi]; omega) ?_
            refine WS.po (tb := tb) rfl rfl rfl rfl rfl ?_
            refine WS.pend rfl ?_
            refine WS.nil ?_
            rcases o1 with _ | z1 <;> rcases o3 with _ | z3 <;> exact ⟨2, by omega, by omega, (SeenBy.seen (v := [0,1,2,3,7]) ⟨rfl, rfl, (by simp [viewP, okL, okV, mapL, mapV, mem_get, mapL_cellsR, okL_cellsR, lyM3, bkL, bkQ, slP, ptP, e, Rn_one1]), (by first | exact rfl | exact own2_dist rfl rfl), (by simp only [slotsP, okV, okL, mapV, mapL, and_true, true_and, List.length_cons, List.length_nil, List.length_append, List.length_map, Nat.reduceAdd, Nat.reduceLT, lyM3, bkL, bkQ, slP, ptP, e, Rn_one1]; repeat' (first | exact rfl | refine ⟨?_, ?_⟩ | exact lk_m rfl (hmp _ rfl) | exact lk_m rfl (hmp2 _ rfl) | exact hok _ (Nat.le_of_ble_eq_true rfl) | exact hok2 _ (Nat.le_of_ble_eq_true rfl) | exact lk_i rfl (by omega) | exact lk_sl rfl (by omega) (by omega) (by omega) | decide | omega))⟩)⟩
    by_cases h2 : i = 2
    · subst h2
      rcases o3 with _ | r
      · have e : lyT [o1, o2, none] 3 = lyT [o1, o2, none] 2 := rfl
        generalize hout : lyT [o1, o2, none] 2 = out at *
        simp only [lyM3, ptP, bkQ, List.cons_append, List.nil_append]
        refine WS.pseq rfl ?_
        refine WS.pregion rfl ?_
        refine WS.poB (tb := tb) true rfl rfl rfl rfl rfl rfl ?_
        refine WS.pend rfl ?_
        refine WS.pseq rfl ?_
        refine WS.pcondT rfl rfl ?_
        refine WS.pskip rfl ?_
        refine WS.pseq rfl ?_
        refine WS.pblock rfl ?_
        refine WS.pseq rfl ?_
        refine WS.pregion rfl ?_
        refine WS.poP (tb := tb) rfl rfl rfl rfl (step_P (evP_index rfl rfl rfl rfl rfl rfl (by omega))) (by simp only [Nat.zero_add, Nat.add_zero, Nat.reduceAdd, Nat.reduceMul, Nat.add_assoc, Nat.mul_one]; exact rfl) ?_
        refine WS.po (tb := tb) rfl rfl rfl rfl rfl ?_
        refine WS.po (tb := tb) rfl rfl rfl rfl rfl ?_
        refine WS.pend rfl ?_
        refine WS.pseq rfl ?_
        refine WS.pseq rfl ?_
        refine WS.pregion rfl ?_
        refine WS.po (tb := tb) rfl rfl rfl rfl rfl ?_
        refine WS.poB (tb := tb) true rfl rfl rfl rfl rfl rfl ?_
        refine WS.pend rfl ?_
        refine WS.pcondT rfl rfl ?_
        refine WS.pexit rfl rfl ?_
        refine WS.pregion rfl ?_
        refine WS.poW (tb := tb) rfl rfl rfl rfl rfl (by simp only [lo]; omega) (by simp only [Am.hi]; omega) ?_
        refine WS.po (tb := tb) rfl rfl rfl rfl rfl ?_
        refine WS.pend rfl ?_
        refine WS.nil ?_
        rcases o1 with _ | z1 <;> rcases o2 with _ | z2 <;> rcases out with _ | ⟨x, out⟩ <;> exact ⟨3, by omega, by omega, (SeenBy.seen (v := [0,1,2,3,4]) ⟨rfl, rfl, (by simp [viewP, okL, okV, mapL, mapV, mem_get, mapL_cellsR, okL_cellsR, lyM3, bkL, bkQ, slP, ptP, e]), (by first | exact rfl | exact own2_dist rfl rfl), (by simp only [slotsP, okV, okL, mapV, mapL, and_true, true_and, List.length_cons, List.length_nil, List.length_append, List.length_map, Nat.reduceAdd, Nat.reduceLT, lyM3, bkL, bkQ, slP, ptP, e]; repeat' (first | exact rfl | refine ⟨?_, ?_⟩ | exact lk_m rfl (hmp _ rfl) | exact lk_m rfl (hmp2 _ rfl) | exact hok _ (Nat.le_of_ble_eq_true rfl) | exact hok2 _ (Nat.le_of_ble_eq_true rfl) | exact lk_i rfl (by omega) | exact lk_sl rfl (by omega) (by omega) (by omega) | decide | omega))⟩)⟩
      · have Hr := hR r (by simp)
        have e : lyT [o1, o2, some r] 3 = layS (lyT [o1, o2, some r] 2) (some r) := rfl
        simp only [layS] at e
        generalize hout : lyT [o1, o2, some r] 2 = out at *
        rcases out with _ | ⟨x, out⟩
        · simp only [List.length_nil, List.getElem?_nil, List.nil_append] at e
          simp only [lyM3, ptP, bkQ, slP, bkL, List.cons_append, List.nil_append]
          refine WS.pseq rfl ?_
          refine WS.pregion rfl ?_
          refine WS.poB (tb := tb) true rfl rfl rfl rfl rfl rfl ?_
          refine WS.pend rfl ?_
          refine WS.pseq rfl ?_
          refine WS.pcondT rfl rfl ?_
          refine WS.pskip rfl ?_
          refine WS.pseq rfl ?_
          refine WS.pblock rfl ?_
          refine WS.pseq rfl ?_
          refine WS.pregion rfl ?_
          refine WS.poP (tb := tb) rfl rfl rfl rfl (step_P (evP_index rfl rfl rfl rfl rfl rfl (by omega))) (by simp only [Nat.zero_add, Nat.add_zero, Nat.reduceAdd, Nat.reduceMul, Nat.add_assoc, Nat.mul_one]; exact rfl) ?_
          refine WS.po (tb := tb) rfl rfl rfl rfl rfl ?_
          refine WS.po (tb := tb) rfl rfl rfl rfl rfl ?_
          refine WS.pend rfl ?_
          refine WS.pseq rfl ?_
          refine WS.pseq rfl ?_
          refine WS.pregion rfl ?_
          refine WS.po (tb := tb) rfl rfl rfl rfl rfl ?_
          refine WS.poB (tb := tb) false rfl rfl rfl rfl rfl rfl ?_
          refine WS.pend rfl ?_
          refine WS.pcondF rfl rfl ?_
          refine WS.pskip rfl ?_
          refine WS.pseq rfl ?_
          refine WS.pseq rfl ?_
          refine WS.pregion rfl ?_
          refine WS.po (tb := tb) rfl rfl rfl rfl rfl ?_
          refine WS.po (tb := tb) rfl rfl rfl rfl rfl ?_
          refine WS.po (tb := tb) rfl rfl rfl rfl rfl ?_
          refine WS.pend rfl ?_
          refine WS.pseq rfl ?_
          refine WS.pregion rfl ?_
          refine WS.po (tb := tb) rfl rfl rfl rfl rfl ?_
          refine WS.poB (tb := tb) false rfl rfl rfl rfl rfl rfl ?_
          refine WS.pend rfl ?_
          refine WS.pcondF rfl rfl ?_
          refine WS.pskip rfl ?_
          refine WS.pregion rfl ?_
          refine WS.po (tb := tb) rfl rfl rfl rfl rfl ?_
          refine WS.po (tb := tb) rfl rfl rfl rfl rfl ?_
          refine WS.po (tb := tb) rfl rfl rfl rfl rfl ?_
          refine WS.poA (tb := tb) rfl rfl rfl rfl rfl (by simp only [List.drop_zero, List.drop_succ_cons, List.take_succ_cons, List.take_zero, rwPl, rwRn, rwVw]; exact rfl) ?_
          refine WS.po (tb := tb) rfl rfl rfl rfl rfl ?_; rw [new_mem]; simp only [ll, vcells, mem_next, Nat.zero_add, Nat.zero_mul, Nat.reduceAdd, reps, setL, Nat.reduceMul]
          refine WS.po (tb := tb) rfl rfl rfl rfl (step_H rfl rfl (evH_append_nil rfl rfl rfl rfl rfl rfl rfl rfl rfl rfl (by omega) (by omega) (cellsAt_all rfl rfl) (by first | exact rfl | (simp only [Pl_len, Rn_len, Vw_len, vcells, List.length_cons, List.length_nil, cellsI_len, cellsB_len, List.length_set, List.length_replicate, List.length_append, List.length_map, List.length_take, List.length_drop]; omega) | omega) (by omega))) ?_; (try rw [upd_mem _ rfl]); (try rw [new_mem]); (try simp only [List.set_cons_zero, List.set_cons_succ, List.cons_append, List.nil_append, mem_next, List.length_cons, List.length_nil, Nat.zero_add, Nat.reduceAdd, List.drop_zero, vcells, cellsI_app1, cellsB_app1, cellsI_cons, repsI, repsB, Pl_app1, Pl_reps, Rn_app1, Rn_reps, Vw_app1, Vw_reps])
          refine WS.po (tb := tb) rfl rfl rfl rfl rfl ?_
          refine WS.pend rfl ?_
          refine WS.pregion rfl ?_
          refine WS.poW (tb := tb) rfl rfl rfl rfl rfl (by simp only [lo]; omega) (by simp only [Am.hi]; omega) ?_
          refine WS.po (tb := tb) rfl rfl rfl rfl rfl ?_
          refine WS.pend rfl ?_
          refine WS.nil ?_
          rcases o1 with _ | z1 <;> rcases o2 with _ | z2 <;> exact ⟨3, by omega, by omega, (SeenBy.seen (v := [0,1,2,3,6]) ⟨rfl, rfl, (by simp [viewP, okL, okV, mapL, mapV, mem_get, mapL_cellsR, okL_cellsR, lyM3, bkL, bkQ, slP, ptP, e, Rn_one1]), (by first | exact rfl | exact own2_dist rfl rfl), (by simp only [slotsP, okV, okL, mapV, mapL, and_true, true_and, List.length_cons, List.length_nil, List.length_append, List.length_map, Nat.reduceAdd, Nat.reduceLT, lyM3, bkL, bkQ, slP, ptP, e, Rn_one1]; repeat' (first | exact rfl | refine ⟨?_, ?_⟩ | exact lk_m rfl (hmp _ rfl) | exact lk_m rfl (hmp2 _ rfl) | exact hok _ (Nat.le_of_ble_eq_true rfl) | exact hok2 _ (Nat.le_of_ble_eq_true rfl) | exact lk_i rfl (by omega) | exact lk_sl rfl (by omega) (by omega) (by omega) | decide | omega))⟩)⟩
        · obtain ⟨q, hq⟩ : ∃ q, (x :: out)[out.length]? = some q := ⟨_, List.getElem?_eq_getElem (by simp)⟩
          have Hq := hBi q (List.mem_of_getElem? hq)
          have J := join_walk q r Hq Hr
          simp only [List.length_cons] at hlen
          have e1 : ((out.length : Int) + 1) - 1 = ((out.length : Nat) : Int) := by omega
          have hol : out.length ≤ 10 := by omega
          simp only [List.length_cons, Nat.add_sub_cancel, hq] at e
          by_cases hj : jn q r = true
          · rw [if_pos hj] at e
            simp only [hj, if_true] at J
            have hs : setL (cellsR rwRn (x :: out)) (out.length * 3) [.i .i64 q.a, .i .i64 (q.b + r.b), .i .i64 q.c] = cellsR rwRn ((x :: out).set out.length ⟨q.a, q.b + r.b, q.c⟩) := Rn_set hq _ _ _
            obtain ⟨x2, out2, hx2⟩ : ∃ x2 out2, (x :: out).set out.length ⟨q.a, q.b + r.b, q.c⟩ = x2 :: out2 := by
              cases hset : (x :: out).set out.length ⟨q.a, q.b + r.b, q.c⟩ with
              | nil => have := congrArg List.length hset; simp at this
              | cons x2 out2 => exact ⟨x2, out2, rfl⟩
            have hl2 : out2.length = out.length := by have := congrArg List.length hx2; simp at this; omega
            rw [hx2] at e hs
            simp only [lyM3, ptP, bkQ, slP, bkL, List.cons_append, List.nil_append]
            refine WS.pseq rfl ?_
            refine WS.pregion rfl ?_
            refine WS.poB (tb := tb) true rfl rfl rfl rfl rfl rfl ?_
            refine WS.pend rfl ?_
            refine WS.pseq rfl ?_
            refine WS.pcondT rfl rfl ?_
            refine WS.pskip rfl ?_
            refine WS.pseq rfl ?_
            refine WS.pblock rfl ?_
            refine WS.pseq rfl ?_
            refine WS.pregion rfl ?_
            refine WS.poP (tb := tb) rfl rfl rfl rfl (step_P (evP_index rfl rfl rfl rfl rfl rfl (by omega))) (by simp only [Nat.zero_add, Nat.add_zero, Nat.reduceAdd, Nat.reduceMul, Nat.add_assoc, Nat.mul_one]; exact rfl) ?_
            refine WS.po (tb := tb) rfl rfl rfl rfl rfl ?_
            refine WS.po (tb := tb) rfl rfl rfl rfl rfl ?_
            refine WS.pend rfl ?_
            refine WS.pseq rfl ?_
            refine WS.pseq rfl ?_
            refine WS.pregion rfl ?_
            refine WS.po (tb := tb) rfl rfl rfl rfl rfl ?_
            refine WS.poB (tb := tb) false rfl rfl rfl rfl rfl rfl ?_
            refine WS.pend rfl ?_
            refine WS.pcondF rfl rfl ?_
            refine WS.pskip rfl ?_
            refine WS.pseq rfl ?_
            refine WS.pseq rfl ?_
            refine WS.pregion rfl ?_
            refine WS.po (tb := tb) rfl rfl rfl rfl rfl ?_
            refine WS.po (tb := tb) rfl rfl rfl rfl rfl ?_
            refine WS.po (tb := tb) rfl rfl rfl rfl rfl ?_
            refine WS.pend rfl ?_
            refine WS.pseq rfl ?_
            refine WS.pregion rfl ?_
            refine WS.po (tb := tb) rfl rfl rfl rfl rfl ?_
            refine WS.poDT (tb := tb) rfl rfl rfl rfl rfl (by omega) ?_
            refine WS.pend rfl ?_
            refine WS.pcondT rfl rfl ?_
            refine WS.pseq rfl ?_
            refine WS.pdrawF (tb := tb) [] J (by exact rfl) (by kernel_rfl) rfl (by kernel_rfl) (by kernel_rfl) (by (try simp only [mapL, mapV, ll]) <;> exact rfl) (by simp [okL, okV, e1]) rfl (by simp [embP, okL, okV, mapL, mapV, mem_next, mem_get, mem_ro, mapL_cellsR, okL_cellsR, e1]; fail_if_success exfalso) rfl (by first | trivial | simp [okV, okL]) (fun _ => ?_)
            refine WD.p (tb := tb) rfl rfl rfl rfl rfl ?_
            refine WD.p (tb := tb) rfl rfl rfl rfl rfl ?_
            refine WD.pW (tb := tb) rfl rfl rfl rfl rfl (by simp only [lo]; omega) (by simp only [Am.hi]; omega) ?_
            refine WD.pP (tb := tb) rfl rfl rfl rfl (evP_index rfl rfl rfl rfl rfl (by assumption) (by omega)) (by simp only [nl, nz, Nat.reduceAdd, Nat.reduceMul, Int.reduceToNat]; exact rfl) ?_
            refine WD.fRA (tb := tb) rfl rfl rfl rfl rfl (evR_loads rfl rfl rfl rfl rfl (by exact (cellsR_part0 (R := rwRn) hq (by exact Nat.le_of_ble_eq_true rfl))) (by exact rfl)) (by simp only [List.drop_zero, List.drop_succ_cons, List.take_succ_cons, List.take_zero, rwPl, rwRn, rwVw]; exact rfl) (mem_wf _ _) ?_
            refine WD.p (tb := tb) rfl rfl rfl rfl rfl ?_
            refine WD.p (tb := tb) rfl rfl rfl rfl rfl ?_
            refine WD.fRA (tb := tb) rfl rfl rfl rfl rfl rfl (by simp only [List.drop_zero, List.drop_succ_cons, List.take_succ_cons, List.take_zero, rwPl, rwRn, rwVw]; exact rfl) (mem_wf _ _) ?_
            refine WD.fC (tb := tb) rfl rfl rfl rfl rfl (fun _ => rfl) rfl rfl (fun _ => rfl) (Grow.lists rfl) ?_
            refine WD.p (tb := tb) rfl rfl rfl rfl rfl ?_
            refine WD.p (tb := tb) rfl rfl rfl rfl rfl ?_
            refine WD.p (tb := tb) rfl rfl rfl rfl rfl ?_
            refine WD.e3 (tb := tb) rfl rfl rfl rfl rfl rfl ?_; rw [new_mem]; simp only [ll, vcells, mem_next, Nat.zero_add, Nat.zero_mul, Nat.reduceAdd, reps, setL, Nat.reduceMul]
            refine WD.e0 (tb := tb) rfl rfl rfl rfl rfl (evE_H (evH_store rfl rfl rfl rfl rfl (Nat.zero_le _) rfl (by simp [vcells]) (Nat.le_of_ble_eq_true rfl))) ?_; rw [upd_mem _ rfl]; simp only [vcells, setL, ll]
            refine WD.p (tb := tb) rfl rfl rfl rfl rfl ?_
            refine WD.fin rfl ?_
            refine WS.pseq rfl ?_
            refine WS.pregion rfl ?_
            refine WS.po (tb := tb) rfl rfl rfl rfl rfl ?_
            refine WS.pend rfl ?_
            refine WS.pcondT rfl rfl ?_
            refine WS.pseq rfl ?_
            refine WS.pregion rfl ?_
            refine WS.po (tb := tb) rfl rfl rfl rfl rfl ?_
            refine WS.po (tb := tb) rfl rfl rfl rfl rfl ?_
            refine WS.poW (tb := tb) rfl rfl rfl rfl rfl (by simp only [lo]; omega) (by simp only [Am.hi]; omega) ?_
            refine WS.poA (tb := tb) rfl rfl rfl rfl rfl (by simp only [List.drop_zero, List.drop_succ_cons, List.take_succ_cons, List.take_zero, rwPl, rwRn, rwVw]; exact rfl) ?_
            refine WS.poP (tb := tb) rfl rfl rfl rfl (step_P (evP_index rfl rfl rfl rfl rfl (by assumption) (by omega))) (by simp only [nl, nz, Nat.reduceAdd, Nat.reduceMul, Int.reduceToNat]; exact rfl) ?_
            refine WS.po0 (tb := tb) rfl rfl rfl rfl (step_H rfl rfl (evH_store rfl rfl rfl rfl rfl (Nat.zero_le _) rfl (by simp [vcells]) (by simp only [Pl_len, Rn_len, Vw_len, vcells, List.length_cons, List.length_nil, cellsI_len, cellsB_len, List.length_set, List.length_replicate, List.length_append, List.length_map, List.length_take, List.length_drop]; omega))) ?_; rw [upd_mem _ rfl]; simp only [vcells, List.set_cons_zero, List.set_cons_succ, hs, e1]; (try simp only [setL, List.set_cons_zero, List.set_cons_succ])
            refine WS.pend rfl ?_
            refine WS.pexit rfl rfl ?_
            refine WS.pregion rfl ?_
            refine WS.poW (tb := tb) rfl rfl rfl rfl rfl (by simp only [lo]; omega) (by simp only [Am.hi]; omega) ?_
            refine WS.po (tb := tb) rfl rfl rfl rfl rfl ?_
            refine WS.pend rfl ?_
            refine WS.nil ?_
            rcases o1 with _ | z1 <;> rcases o2 with _ | z2 <;> exact ⟨3, by omega, by omega, (SeenBy.seen (v := [0,1,2,3,4]) ⟨rfl, rfl, (by simp [viewP, okL, okV, mapL, mapV, mem_get, mapL_cellsR, okL_cellsR, lyM3, bkL, bkQ, slP, ptP, e, hl2]), (by first | exact rfl | exact own2_dist rfl rfl), (by simp only [slotsP, okV, okL, mapV, mapL, and_true, true_and, List.length_cons, List.length_nil, List.length_append, List.length_map, Nat.reduceAdd, Nat.reduceLT, lyM3, bkL, bkQ, slP, ptP, e, hl2]; repeat' (first | exact rfl | refine ⟨?_, ?_⟩ | exact lk_m rfl (hmp _ rfl) | exact lk_m rfl (hmp2 _ rfl) | exact hok _ (Nat.le_of_ble_eq_true rfl) | exact hok2 _ (Nat.le_of_ble_eq_true rfl) | exact lk_i rfl (by omega) | exact lk_sl rfl (by omega) (by omega) (by omega) | decide | omega))⟩)⟩
          · rw [if_neg hj, List.cons_append] at e
            have hj' : jn q r = false := by simpa using hj
            simp only [hj', Bool.false_eq_true, if_false] at J
            simp only [lyM3, ptP, bkQ, slP, bkL, List.cons_append, List.nil_append]
            refine WS.pseq rfl ?_
            refine WS.pregion rfl ?_
            refine WS.poB (tb := tb) true rfl rfl rfl rfl rfl rfl ?_
            refine WS.pend rfl ?_
            refine WS.pseq rfl ?_
            refine WS.pcondT rfl rfl ?_
            refine WS.pskip rfl ?_
            refine WS.pseq rfl ?_
            refine WS.pblock rfl ?_
            refine WS.pseq rfl ?_
            refine WS.pregion rfl ?_
            refine WS.poP (tb := tb) rfl rfl rfl rfl (step_P (evP_index rfl rfl rfl rfl rfl rfl (by omega))) (by simp only [Nat.zero_add, Nat.add_zero, Nat.reduceAdd, Nat.reduceMul, Nat.add_assoc, Nat.mul_one]; exact rfl) ?_
            refine WS.po (tb := tb) rfl rfl rfl rfl rfl ?_
            refine WS.po (tb := tb) rfl rfl rfl rfl rfl ?_
            refine WS.pend rfl ?_
            refine WS.pseq rfl ?_
            refine WS.pseq rfl ?_
            refine WS.pregion rfl ?_
            refine WS.po (tb := tb) rfl rfl rfl rfl rfl ?_
            refine WS.poB (tb := tb) false rfl rfl rfl rfl rfl rfl ?_
            refine WS.pend rfl ?_
            refine WS.pcondF rfl rfl ?_
            refine WS.pskip rfl ?_
            refine WS.pseq rfl ?_
            refine WS.pseq rfl ?_
            refine WS.pregion rfl ?_
            refine WS.po (tb := tb) rfl rfl rfl rfl rfl ?_
            refine WS.po (tb := tb) rfl rfl rfl rfl rfl ?_
            refine WS.po (tb := tb) rfl rfl rfl rfl rfl ?_
            refine WS.pend rfl ?_
            refine WS.pseq rfl ?_
            refine WS.pregion rfl ?_
            refine WS.po (tb := tb) rfl rfl rfl rfl rfl ?_
            refine WS.poDT (tb := tb) rfl rfl rfl rfl rfl (by omega) ?_
            refine WS.pend rfl ?_
            refine WS.pcondT rfl rfl ?_
            refine WS.pseq rfl ?_
            refine WS.pdrawF (tb := tb) [] J (by exact rfl) (by kernel_rfl) rfl (by kernel_rfl) (by kernel_rfl) (by (try simp only [mapL, mapV, ll]) <;> exact rfl) (by simp [okL, okV, e1]) rfl (by simp [embP, okL, okV, mapL, mapV, mem_next, mem_get, mem_ro, mapL_cellsR, okL_cellsR, e1]; fail_if_success exfalso) rfl (by first | trivial | simp [okV, okL]) (fun _ => ?_)
            refine WD.p (tb := tb) rfl rfl rfl rfl rfl ?_
            refine WD.p (tb := tb) rfl rfl rfl rfl rfl ?_
            refine WD.pW (tb := tb) rfl rfl rfl rfl rfl (by simp only [lo]; omega) (by simp only [Am.hi]; omega) ?_
            refine WD.pP (tb := tb) rfl rfl rfl rfl (evP_index rfl rfl rfl rfl rfl (by assumption) (by omega)) (by simp only [nl, nz, Nat.reduceAdd, Nat.reduceMul, Int.reduceToNat]; exact rfl) ?_
            refine WD.fRA (tb := tb) rfl rfl rfl rfl rfl (evR_loads rfl rfl rfl rfl rfl (by exact (cellsR_part0 (R := rwRn) hq (by exact Nat.le_of_ble_eq_true rfl))) (by exact rfl)) (by simp only [List.drop_zero, List.drop_succ_cons, List.take_succ_cons, List.take_zero, rwPl, rwRn, rwVw]; exact rfl) (mem_wf _ _) ?_
            refine WD.p (tb := tb) rfl rfl rfl rfl rfl ?_
            refine WD.p (tb := tb) rfl rfl rfl rfl rfl ?_
            refine WD.fRA (tb := tb) rfl rfl rfl rfl rfl rfl (by simp only [List.drop_zero, List.drop_succ_cons, List.take_succ_cons, List.take_zero, rwPl, rwRn, rwVw]; exact rfl) (mem_wf _ _) ?_
            refine WD.fC (tb := tb) rfl rfl rfl rfl rfl (fun _ => rfl) rfl rfl (fun _ => rfl) (Grow.lists rfl) ?_
            refine WD.p (tb := tb) rfl rfl rfl rfl rfl ?_
            refine WD.p (tb := tb) rfl rfl rfl rfl rfl ?_
            refine WD.p (tb := tb) rfl rfl rfl rfl rfl ?_
            refine WD.e3 (tb := tb) rfl rfl rfl rfl rfl rfl ?_; rw [new_mem]; simp only [ll, vcells, mem_next, Nat.zero_add, Nat.zero_mul, Nat.reduceAdd, reps, setL, Nat.reduceMul]
            refine WD.e0 (tb := tb) rfl rfl rfl rfl rfl (evE_H (evH_store rfl rfl rfl rfl rfl (Nat.zero_le _) rfl (by simp [vcells]) (Nat.le_of_ble_eq_true rfl))) ?_; rw [upd_mem _ rfl]; simp only [vcells, setL, ll]
            refine WD.p (tb := tb) rfl rfl rfl rfl rfl ?_
            refine WD.fin rfl ?_
            refine WS.pseq rfl ?_
            refine WS.pregion rfl ?_
            refine WS.po (tb := tb) rfl rfl rfl rfl rfl ?_
            refine WS.pend rfl ?_
            refine WS.pcondF rfl rfl ?_
            refine WS.pskip rfl ?_
            refine WS.pregion rfl ?_
            refine WS.po (tb := tb) rfl rfl rfl rfl rfl ?_
            refine WS.po (tb := tb) rfl rfl rfl rfl rfl ?_
            refine WS.po (tb := tb) rfl rfl rfl rfl rfl ?_
            refine WS.poA (tb := tb) rfl rfl rfl rfl rfl (by simp only [List.drop_zero, List.drop_succ_cons, List.take_succ_cons, List.take_zero, rwPl, rwRn, rwVw]; exact rfl) ?_
            refine WS.po (tb := tb) rfl rfl rfl rfl rfl ?_; rw [new_mem]; simp only [ll, vcells, mem_next, Nat.zero_add, Nat.zero_mul, Nat.reduceAdd, reps, setL, Nat.reduceMul]
            refine WS.po (tb := tb) rfl rfl rfl rfl (step_H rfl rfl (evH_append_open rfl rfl rfl rfl rfl rfl rfl rfl rfl (by omega) rfl (Nat.zero_le _) (by omega) (cellsAt_all rfl rfl) (by first | exact rfl | (simp only [Pl_len, Rn_len, Vw_len, vcells, List.length_cons, List.length_nil, cellsI_len, cellsB_len, List.length_set, List.length_replicate, List.length_append, List.length_map, List.length_take, List.length_drop]; omega) | omega) (by first | exact rfl | (simp only [Pl_len, Rn_len, Vw_len, vcells, List.length_cons, List.length_nil, cellsI_len, cellsB_len, List.length_set, List.length_replicate, List.length_append, List.length_map, List.length_take, List.length_drop]; omega) | omega) rfl (by omega))) ?_; (try rw [upd_mem _ rfl]); (try rw [new_mem]); (try simp only [List.set_cons_zero, List.set_cons_succ, List.cons_append, List.nil_append, mem_next, List.length_cons, List.length_nil, Nat.zero_add, Nat.reduceAdd, List.drop_zero, vcells, cellsI_app1, cellsB_app1, cellsI_cons, repsI, repsB, Pl_app1, Pl_reps, Rn_app1, Rn_reps, Vw_app1, Vw_reps, e1])
            refine WS.po (tb := tb) rfl rfl rfl rfl rfl ?_
            refine WS.pend rfl ?_
            refine WS.pregion rfl ?_
            refine WS.poW (tb := tb) rfl rfl rfl rfl rfl (by simp only [lo]; omega) (by simp only [Am.hi]; omega) ?_
            refine WS.po (tb := tb) rfl rfl rfl rfl rfl ?_
            refine WS.pend rfl ?_
            refine WS.nil ?_
            rcases o1 with _ | z1 <;> rcases o2 with _ | z2 <;> exact ⟨3, by omega, by omega, (SeenBy.seen (v := [0,1,2,3,7]) ⟨rfl, rfl, (by simp [viewP, okL, okV, mapL, mapV, mem_get, mapL_cellsR, okL_cellsR, lyM3, bkL, bkQ, slP, ptP, e, Rn_one1]), (by first | exact rfl | exact own2_dist rfl rfl), (by simp only [slotsP, okV, okL, mapV, mapL, and_true, true_and, List.length_cons, List.length_nil, List.length_append, List.length_map, Nat.reduceAdd, Nat.reduceLT, lyM3, bkL, bkQ, slP, ptP, e, Rn_one1]; repeat' (first | exact rfl | refine ⟨?_, ?_⟩ | exact lk_m rfl (hmp _ rfl) | exact lk_m rfl (hmp2 _ rfl) | exact hok _ (Nat.le_of_ble_eq_true rfl) | exact hok2 _ (Nat.le_of_ble_eq_true rfl) | exact lk_i rfl (by omega) | exact lk_sl rfl (by omega) (by omega) (by omega) | decide | omega))⟩)⟩
    have e : i = 3 := by omega
    subst e
    have e : lyT [o1, o2, o3] 3 = layL [o1, o2, o3] := rfl
    generalize hout : layL [o1, o2, o3] = out at *
    simp only [lyM3, e, List.cons_append, List.nil_append]
    refine WS.pseq rfl ?_
    refine WS.pregion rfl ?_
    refine WS.poB (tb := tb) false rfl rfl rfl rfl rfl rfl ?_
    refine WS.pend rfl ?_
    refine WS.pseq rfl ?_
    refine WS.pcondF rfl rfl ?_
    refine WS.pout rfl rfl ?_
    rcases o1 with _ | z1 <;> rcases o2 with _ | z2 <;> rcases o3 with _ | z3 <;> rcases out with _ | ⟨x, out⟩ <;> exact ⟨rfl, (), trivial, (SeenBy.seen (v := [0,1,2,3,4]) ⟨rfl, rfl, (by simp [viewP, okL, okV, mapL, mapV, mem_get, mapL_cellsR, okL_cellsR, lyM3, bkL, bkQ, slP, ptP]), (by first | exact rfl | exact own2_dist rfl rfl), (by simp only [slotsP, okV, okL, mapV, mapL, and_true, true_and, List.length_cons, List.length_nil, List.length_append, List.length_map, Nat.reduceAdd, Nat.reduceLT, lyM3, bkL, bkQ, slP, ptP]; repeat' (first | exact rfl | refine ⟨?_, ?_⟩ | exact lk_m rfl (hmp _ rfl) | exact lk_m rfl (hmp2 _ rfl) | exact hok _ (Nat.le_of_ble_eq_true rfl) | exact hok2 _ (Nat.le_of_ble_eq_true rfl) | exact lk_i rfl (by omega) | exact lk_sl rfl (by omega) (by omega) (by omega) | decide | omega))⟩)⟩
  · rintro _ -
    generalize hout : layL [o1, o2, o3] = out at *
    simp only [lyM3, List.cons_append, List.nil_append]
    refine WS.pseq rfl ?_
    refine WS.pregion rfl ?_
    refine WS.po (tb := tb) rfl rfl rfl rfl rfl ?_
    refine WS.po (tb := tb) rfl rfl rfl rfl rfl ?_
    refine WS.pend rfl ?_
    refine WS.pret rfl ⟨.inr rfl, _, rfl, ?_⟩
    rcases o1 with _ | z1 <;> rcases o2 with _ | z2 <;> rcases o3 with _ | z3 <;> rcases out with _ | ⟨x, out⟩ <;> exact ⟨_, rfl, [0,1,2,3,4], _, _, ⟨rfl, rfl, (by simp [viewP, okL, okV, mapL, mapV, mem_get, mapL_cellsR, okL_cellsR, lyM3, bkL, bkQ, slP, ptP]), rfl⟩, rfl, by simp [okV, slP], rfl, rfl⟩
end Go.Proofs.Ytdeeancepelkiaa.Am

