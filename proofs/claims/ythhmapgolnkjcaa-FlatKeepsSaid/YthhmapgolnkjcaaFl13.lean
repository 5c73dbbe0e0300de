/- A round of FlatKeeps, walked. Conditions: those of each theorem. -/
import Derived.Test.YthhmapgolnkjcaaFl11
namespace Go.Proofs.Ythhmapgolnkjcaa.Am
open Go.Proofs
set_option maxRecDepth 1000000
set_option maxHeartbeats 4000000
set_option linter.unusedSimpArgs false
set_option linter.unusedVariables false
structure StK where
  i : Nat
  t : List Int
  q : Bool
structure InvK (cap m n : Nat) (s : StK) : Prop where
  i : s.i ≤ n
  len : s.t.length = cap
  bnd : Bnd s.t
  cnt : (runsN s.t cap).length ≤ m
def SSk (cap m : Nat) (a : Option (Nat × Nat)) (n c : Nat) (s : StK) : List (Nat × V) := [(0, .i .i64 cap), (1, .i .i64 m), (2, .sl a n c false), (7, .p (some (2,0))), (9, .i .i64 s.i)]
def MMk (l : List Act) (cap m : Nat) (s : StK) : List (Option Blk) := [some ⟨cellsR rwAct l, 34, false⟩, some ⟨cellsR (rwI .i64) s.t, 3, true⟩, some ⟨[.i .i64 m, .sl (some (1,0)) cap cap s.q], 59, true⟩]
abbrev PostK (cap m : Nat) (l : List Act) (c : Nat) (s : StK) : Ex → T V → LH → Prop := fun x t' h' => match x with
  | .n => ∃ s', InvK cap m l.length s' ∧ l.length - s'.i < l.length - s.i ∧ Seen 1 t' h' (SSk cap m (some (0,0)) l.length c s') (MMk l cap m s')
  | .x j => j = 0 ∧ ∃ b : Unit, True ∧ Seen 1 t' h' [] [some ⟨cellsR rwAct l, 34, false⟩]
  | .r => False

theorem kp_sbad (cap m : Nat) (l : List Act) (c i : Nat) (t : List Int) (q : Bool) (z1 z2 phys : Int) (h : ¬ (1 ≤ z2 ∧ z2 ≤ cap ∧ 0 ≤ z1 ∧ z1 ≤ cap - z2) ∨ phys < 0 ∨ 1048576 < phys) (H : InvK cap m l.length ⟨i, t, q⟩) (hl : l.length ≤ 60) (hc0 : 1 ≤ cap) (hc : cap ≤ 64) (hm : m ≤ 512) (hx : l[i]? = some ⟨0, z1, z2, phys⟩) :
    WS Try.prog (frameN Try.f5 3) 1 [.c (k1 (k1 (k2 (k1 (k2 (k2 (k2 (k2 (kb Try.f5)))))))))] (slt (SSk cap m (some (0,0)) l.length c ⟨i, t, q⟩)) (mem 0 (MMk l cap m ⟨i, t, q⟩)) (PostK cap m l c ⟨i, t, q⟩) := by
  have hi : i < l.length := (List.getElem?_eq_some_iff.1 hx).1
  have hlen : t.length = cap := H.len
  have hb : Bnd t := H.bnd
  have hcnt : (runsN t cap).length ≤ m := H.cnt
  have T1 := table_walk t m q (by omega) (by omega)
  have CN := cnt_walk t m q (by omega) hb
  simp only [mapM, hlen] at CN
  have B := set_walk_bad t m q z1 z2 phys (by omega) (by rw [hlen]; exact h)
  simp only [mapM, hlen] at B

  simp only [mapM, hlen, List.cons_append, List.nil_append] at T1
  simp only [SSk, MMk]
  refine WS.pseq rfl ?_
  refine WS.pseq rfl ?_
  refine WS.pregion rfl ?_
  refine WS.po (tb := tb) rfl rfl rfl rfl rfl ?_
  refine WS.po (tb := tb) rfl rfl rfl rfl rfl ?_
  refine WS.po (tb := tb) rfl rfl rfl rfl rfl ?_
  refine WS.poDT (tb := tb) rfl rfl rfl rfl rfl (by omega) ?_
  refine WS.pend rfl ?_
  refine WS.pcondT rfl rfl ?_
  refine WS.pskip rfl ?_
  refine WS.pseq rfl ?_
  refine WS.pblock rfl ?_
  refine WS.pseq rfl ?_
  refine WS.pregion rfl ?_
  refine WS.po (tb := tb) rfl rfl rfl rfl rfl ?_
  refine WS.po (tb := tb) rfl rfl rfl rfl rfl ?_
  refine WS.poP (tb := tb) rfl rfl rfl rfl (step_P (evP_index rfl rfl rfl rfl rfl rfl (by omega))) (by simp only [Nat.zero_add, Nat.add_zero, Nat.reduceAdd, Nat.reduceMul, Nat.add_assoc, Nat.mul_one]; exact rfl) ?_
  refine WS.poA (tb := tb) rfl rfl rfl rfl (step_R rfl (evR_loads rfl rfl rfl rfl rfl (by exact (cellsR_part0 (R := rwAct) hx (by exact Nat.le_of_ble_eq_true rfl))) (by exact rfl))) (by simp only [List.drop_zero, List.drop_succ_cons, List.take_succ_cons, List.take_zero, rwRun, rwAct]; exact rfl) ?_
  refine WS.po (tb := tb) rfl rfl rfl rfl rfl ?_; rw [new_mem]; simp only [List.cons_append, List.nil_append, vcells, mem_next, List.length_cons, List.length_nil, Nat.zero_add, Nat.reduceAdd, reps, List.append_nil, setL, List.set_cons_zero, List.set_cons_succ, Nat.zero_mul, Nat.reduceMul]
  refine WS.po0 (tb := tb) rfl rfl rfl rfl (step_H rfl rfl (evH_store rfl rfl rfl rfl rfl (Nat.zero_le _) rfl (by simp [vcells]) (Nat.le_of_ble_eq_true rfl))) ?_; rw [upd_mem _ rfl]; simp only [vcells, setL, List.set_cons_zero, List.set_cons_succ]
  refine WS.pend rfl ?_
  refine WS.pseq rfl ?_
  refine WS.pregion rfl ?_
  refine WS.po (tb := tb) rfl rfl rfl rfl rfl ?_
  refine WS.pcallM (tb := tb) [1,2] T1 rfl rfl rfl rfl rfl (by (try simp only [mapL, mapV, List.getD_cons_zero, List.getD_cons_succ]); exact rfl) (by simp [okL, okV]; fail_if_success exfalso) rfl (by simp [embP, okL, okV, mapL, mapV, mem_next, mem_get, mem_ro, mapL_cellsR, okL_cellsR]; fail_if_success exfalso) rfl ?_; rintro _ _ ⟨rfl, rfl⟩ -; simp only [plugL, setsL, newsL, isOwn, ownB, over, mapL, mapV, List.getD_cons_zero, List.getD_cons_succ, List.set_cons_zero, List.set_cons_succ, List.length_cons, List.length_nil, Nat.reduceAdd, Nat.reduceLT, Nat.zero_add, if_true, if_false, Nat.reduceSub, reduceIte, List.map_cons, List.map_nil, List.append_nil, List.cons_append, List.nil_append, mapL_cellsR, Nat.lt_irrefl, Nat.not_lt_zero, Nat.zero_lt_succ, Nat.lt_add_one]
  refine WS.po (tb := tb) rfl rfl rfl rfl rfl ?_
  refine WS.pend rfl ?_
  refine WS.pseq rfl ?_
  refine WS.pregion rfl ?_
  refine WS.po (tb := tb) rfl rfl rfl rfl rfl ?_
  refine WS.pend rfl ?_
  refine WS.pseq rfl ?_
  refine WS.pseq rfl ?_
  refine WS.pregion rfl ?_
  refine WS.poP (tb := tb) rfl rfl rfl rfl rfl (by simp only [List.getElem_toArray, List.getElem_cons_zero, List.getElem_cons_succ, Nat.zero_add, Nat.add_zero, Nat.reduceAdd, Nat.reduceMul, Nat.add_assoc, Nat.mul_one, Int.toNat_natCast, Int.reduceToNat, Int.toNat_zero, Nat.zero_mul]; exact rfl) ?_
  refine WS.po (tb := tb) rfl rfl rfl rfl rfl ?_
  refine WS.poB (tb := tb) true rfl rfl rfl rfl rfl rfl ?_
  refine WS.pend rfl ?_
  refine WS.pcondT rfl rfl ?_
  refine WS.pregion rfl ?_
  refine WS.po (tb := tb) rfl rfl rfl rfl rfl ?_
  refine WS.poP (tb := tb) rfl rfl rfl rfl rfl (by simp only [List.getElem_toArray, List.getElem_cons_zero, List.getElem_cons_succ, Nat.zero_add, Nat.add_zero, Nat.reduceAdd, Nat.reduceMul, Nat.add_assoc, Nat.mul_one, Int.toNat_natCast, Int.reduceToNat, Int.toNat_zero, Nat.zero_mul]; exact rfl) ?_
  refine WS.po (tb := tb) rfl rfl rfl rfl rfl ?_
  refine WS.poP (tb := tb) rfl rfl rfl rfl rfl (by simp only [List.getElem_toArray, List.getElem_cons_zero, List.getElem_cons_succ, Nat.zero_add, Nat.add_zero, Nat.reduceAdd, Nat.reduceMul, Nat.add_assoc, Nat.mul_one, Int.toNat_natCast, Int.reduceToNat, Int.toNat_zero, Nat.zero_mul]; exact rfl) ?_
  refine WS.po (tb := tb) rfl rfl rfl rfl rfl ?_
  refine WS.poP (tb := tb) rfl rfl rfl rfl rfl (by simp only [List.getElem_toArray, List.getElem_cons_zero, List.getElem_cons_succ, Nat.zero_add, Nat.add_zero, Nat.reduceAdd, Nat.reduceMul, Nat.add_assoc, Nat.mul_one, Int.toNat_natCast, Int.reduceToNat, Int.toNat_zero, Nat.zero_mul]; exact rfl) ?_
  refine WS.po (tb := tb) rfl rfl rfl rfl rfl ?_
  refine WS.pcallM (tb := tb) [1,2] B rfl rfl rfl rfl rfl (by (try simp only [mapL, mapV, List.getD_cons_zero, List.getD_cons_succ]); exact rfl) (by simp [okL, okV]; fail_if_success exfalso) rfl (by simp [embP, okL, okV, mapL, mapV, mem_next, mem_get, mem_ro, mapL_cellsR, okL_cellsR]; fail_if_success exfalso) rfl ?_; rintro _ _ ⟨rfl, rfl⟩ -; simp only [plugL, setsL, newsL, isOwn, ownB, over, mapL, mapV, List.getD_cons_zero, List.getD_cons_succ, List.set_cons_zero, List.set_cons_succ, List.length_cons, List.length_nil, Nat.reduceAdd, Nat.reduceLT, Nat.zero_add, if_true, if_false, Nat.reduceSub, reduceIte, List.map_cons, List.map_nil, List.append_nil, List.cons_append, List.nil_append, mapL_cellsR, Nat.lt_irrefl, Nat.not_lt_zero, Nat.zero_lt_succ, Nat.lt_add_one]
  refine WS.po (tb := tb) rfl rfl rfl rfl rfl ?_
  refine WS.pend rfl ?_
  refine WS.pseq rfl ?_
  refine WS.pregion rfl ?_
  refine WS.po (tb := tb) rfl rfl rfl rfl rfl ?_
  refine WS.pcallM (tb := tb) [1,2] T1 rfl rfl rfl rfl rfl (by (try simp only [mapL, mapV, List.getD_cons_zero, List.getD_cons_succ]); exact rfl) (by simp [okL, okV]; fail_if_success exfalso) rfl (by simp [embP, okL, okV, mapL, mapV, mem_next, mem_get, mem_ro, mapL_cellsR, okL_cellsR]; fail_if_success exfalso) rfl ?_; rintro _ _ ⟨rfl, rfl⟩ -; simp only [plugL, setsL, newsL, isOwn, ownB, over, mapL, mapV, List.getD_cons_zero, List.getD_cons_succ, List.set_cons_zero, List.set_cons_succ, List.length_cons, List.length_nil, Nat.reduceAdd, Nat.reduceLT, Nat.zero_add, if_true, if_false, Nat.reduceSub, reduceIte, List.map_cons, List.map_nil, List.append_nil, List.cons_append, List.nil_append, mapL_cellsR, Nat.lt_irrefl, Nat.not_lt_zero, Nat.zero_lt_succ, Nat.lt_add_one]
  refine WS.po (tb := tb) rfl rfl rfl rfl rfl ?_
  refine WS.pend rfl ?_
  refine WS.pseq rfl ?_
  refine WS.pseq rfl ?_
  refine WS.pregion rfl ?_
  refine WS.po (tb := tb) rfl rfl rfl rfl rfl ?_
  refine WS.po (tb := tb) rfl rfl rfl rfl rfl ?_
  refine WS.po (tb := tb) rfl rfl rfl rfl rfl ?_
  refine WS.poNF (tb := tb) rfl rfl rfl rfl rfl (by omega) ?_
  refine WS.po (tb := tb) rfl rfl rfl rfl rfl ?_
  refine WS.po (tb := tb) rfl rfl rfl rfl rfl ?_
  refine WS.po (tb := tb) rfl rfl rfl rfl rfl ?_
  refine WS.po (tb := tb) rfl rfl rfl rfl rfl ?_
  refine WS.poNF (tb := tb) rfl rfl rfl rfl rfl (by omega) ?_
  refine WS.po (tb := tb) rfl rfl rfl rfl rfl ?_
  refine WS.po (tb := tb) rfl rfl rfl rfl rfl ?_
  refine WS.po (tb := tb) rfl rfl rfl rfl rfl ?_
  refine WS.pcallM (tb := tb) [1,2] CN rfl rfl rfl rfl rfl (by (try simp only [mapL, mapV, List.getD_cons_zero, List.getD_cons_succ]); exact rfl) (by simp [okL, okV]; fail_if_success exfalso) rfl (by simp [embP, okL, okV, mapL, mapV, mem_next, mem_get, mem_ro, mapL_cellsR, okL_cellsR]; fail_if_success exfalso) rfl ?_; rintro _ _ ⟨rfl, rfl⟩ -; simp only [plugL, setsL, newsL, isOwn, ownB, over, mapL, mapV, List.getD_cons_zero, List.getD_cons_succ, List.set_cons_zero, List.set_cons_succ, List.length_cons, List.length_nil, Nat.reduceAdd, Nat.reduceLT, Nat.zero_add, if_true, if_false, Nat.reduceSub, reduceIte, List.map_cons, List.map_nil, List.append_nil, List.cons_append, List.nil_append, mapL_cellsR, Nat.lt_irrefl, Nat.not_lt_zero, Nat.zero_lt_succ, Nat.lt_add_one]
  refine WS.po (tb := tb) rfl rfl rfl rfl rfl ?_
  refine WS.poDF (tb := tb) rfl rfl rfl rfl rfl (by omega) ?_
  refine WS.po (tb := tb) rfl rfl rfl rfl rfl ?_
  refine WS.pend rfl ?_
  refine WS.pcondF rfl rfl ?_
  refine WS.pskip rfl ?_
  refine WS.pseq rfl ?_
  refine WS.pseq rfl ?_
  refine WS.pregion rfl ?_
  refine WS.po (tb := tb) rfl rfl rfl rfl rfl ?_
  refine WS.pend rfl ?_
  refine WS.pblock rfl ?_
  refine WS.ploopI (σ := Nat) (τ := Unit) (fun k => [(0, .i .i64 cap), (1, .i .i64 m), (2, .sl (some (0,0)) l.length c false), (7, .p (some (2,0))), (9, .i .i64 i), (10, .p (some (3,0))), (11, .sl (some (4,0)) cap cap true), (12, .i .i64 1), (13, .sl (some (5,0)) cap cap true), (14, .i .i64 k)]) (fun _ => [some ⟨cellsR rwAct l, 34, false⟩, some ⟨cellsR (rwI .i64) t, 3, true⟩, some ⟨[.i .i64 m, .sl (some (1,0)) cap cap q], 59, true⟩, some ⟨[.i .i64 0, .i .i64 z1, .i .i64 z2, .i .i64 phys], 34, true⟩, some ⟨cellsR (rwI .i64) t, 3, true⟩, some ⟨cellsR (rwI .i64) t, 3, true⟩]) (fun k => k ≤ cap) (fun k => cap - k)
    (fun _ => [(0, .i .i64 cap), (1, .i .i64 m), (2, .sl (some (0,0)) l.length c false), (7, .p (some (2,0))), (9, .i .i64 i), (10, .p (some (3,0))), (12, .i .i64 1)]) (fun _ => [some ⟨cellsR rwAct l, 34, false⟩, some ⟨cellsR (rwI .i64) t, 3, true⟩, some ⟨[.i .i64 m, .sl (some (1,0)) cap cap q], 59, true⟩, some ⟨[.i .i64 0, .i .i64 z1, .i .i64 z2, .i .i64 phys], 34, true⟩, some ⟨cellsR (rwI .i64) t, 3, true⟩, some ⟨cellsR (rwI .i64) t, 3, true⟩]) (fun _ => True) 2 [0,1,2,3,4,5] 0 rfl (Nat.zero_le _) ⟨rfl, rfl, (by simp [viewP, okL, okV, mapL, mapV, mem_get, mapL_cellsR, okL_cellsR]), (by first | exact rfl | exact own2_dist rfl rfl), (by simp only [slotsP, okV, okL, mapV, mapL, and_true, true_and, List.length_cons, List.length_nil, List.length_append, List.length_map, Nat.reduceAdd, Nat.reduceLT]; repeat' (first | exact rfl | refine ⟨?_, ?_⟩ | exact lk_m rfl (hmp _ rfl) | exact hok _ (Nat.le_of_ble_eq_true rfl) | exact lk_i rfl (by omega) | exact lk_sl rfl (by omega) (by omega) (by omega) | decide | omega))⟩ rfl ?_ ?_
  · intro k hk
    by_cases h : k < cap
    · obtain ⟨w, hw⟩ : ∃ w, t[k]? = some w := ⟨_, List.getElem?_eq_getElem (by omega)⟩
      refine WS.pseq rfl ?_
      refine WS.pseq rfl ?_
      refine WS.pregion rfl ?_
      refine WS.po (tb := tb) rfl rfl rfl rfl rfl ?_
      refine WS.po (tb := tb) rfl rfl rfl rfl rfl ?_
      refine WS.poDT (tb := tb) rfl rfl rfl rfl rfl (by omega) ?_
      refine WS.pend rfl ?_
      refine WS.pcondT rfl rfl ?_
      refine WS.pskip rfl ?_
      refine WS.pseq rfl ?_
      refine WS.pblock rfl ?_
      refine WS.pseq rfl ?_
      refine WS.pregion rfl ?_
      refine WS.po (tb := tb) rfl rfl rfl rfl rfl ?_
      refine WS.poB (tb := tb) false rfl rfl rfl rfl rfl rfl ?_
      refine WS.po (tb := tb) rfl rfl rfl rfl rfl ?_
      refine WS.pono rfl rfl rfl rfl ?_
      refine WS.pono rfl rfl rfl rfl ?_
      refine WS.pono rfl rfl rfl rfl ?_
      refine WS.pono rfl rfl rfl rfl ?_
      refine WS.po (tb := tb) rfl rfl rfl rfl rfl ?_
      refine WS.po (tb := tb) rfl rfl rfl rfl rfl ?_
      refine WS.pono rfl rfl rfl rfl ?_
      refine WS.pono rfl rfl rfl rfl ?_
      refine WS.pono rfl rfl rfl rfl ?_
      refine WS.pono rfl rfl rfl rfl ?_
      refine WS.pono rfl rfl rfl rfl ?_
      refine WS.pono rfl rfl rfl rfl ?_
      refine WS.pono rfl rfl rfl rfl ?_
      refine WS.po (tb := tb) rfl rfl rfl rfl rfl ?_
      refine WS.po (tb := tb) rfl rfl rfl rfl rfl ?_
      refine WS.pend rfl ?_
      refine WS.pseq rfl ?_
      refine WS.pdraw (tb := tb) (by kernel_rfl) rfl (by kernel_rfl) (by kernel_rfl) ?_
      refine WD.p (tb := tb) rfl rfl rfl rfl rfl ?_
      refine WD.pB (tb := tb) true rfl rfl rfl rfl rfl rfl ?_
      refine WD.p (tb := tb) rfl rfl rfl rfl rfl ?_
      refine WD.p (tb := tb) rfl rfl rfl rfl rfl ?_
      refine WD.p (tb := tb) rfl rfl rfl rfl rfl ?_
      refine WD.pP (tb := tb) rfl rfl rfl rfl (evP_index rfl rfl rfl rfl rfl rfl (by omega)) (by simp only [Nat.zero_add, Nat.add_zero, Nat.reduceAdd, Nat.reduceMul, Nat.add_assoc, Nat.mul_one]; exact rfl) ?_
      refine WD.r (tb := tb) rfl rfl rfl rfl (evQ_R rfl (evR_load rfl rfl rfl rfl (cellsI_get hw))) ?_
      refine WD.p (tb := tb) rfl rfl rfl rfl rfl ?_
      refine WD.p (tb := tb) rfl rfl rfl rfl rfl ?_
      refine WD.pP (tb := tb) rfl rfl rfl rfl (evP_index rfl rfl rfl rfl rfl rfl (by omega)) (by simp only [Nat.zero_add, Nat.add_zero, Nat.reduceAdd, Nat.reduceMul, Nat.add_assoc, Nat.mul_one]; exact rfl) ?_
      refine WD.r (tb := tb) rfl rfl rfl rfl (evQ_R rfl (evR_load rfl rfl rfl rfl (cellsI_get hw))) ?_
      refine WD.pNF (tb := tb) rfl rfl rfl rfl rfl (by omega) ?_
      refine WD.p (tb := tb) rfl rfl rfl rfl rfl ?_
      refine WD.p (tb := tb) rfl rfl rfl rfl rfl ?_
      refine WD.p (tb := tb) rfl rfl rfl rfl rfl ?_
      refine WD.p (tb := tb) rfl rfl rfl rfl rfl ?_
      refine WD.no rfl rfl rfl rfl ?_
      refine WD.no1 rfl rfl rfl rfl ?_
      refine WD.no rfl rfl rfl rfl ?_
      refine WD.p (tb := tb) rfl rfl rfl rfl rfl ?_
      refine WD.p (tb := tb) rfl rfl rfl rfl rfl ?_
      refine WD.no rfl rfl rfl rfl ?_
      refine WD.no rfl rfl rfl rfl ?_
      refine WD.no rfl rfl rfl rfl ?_
      refine WD.no1 rfl rfl rfl rfl ?_
      refine WD.no rfl rfl rfl rfl ?_
      refine WD.p (tb := tb) rfl rfl rfl rfl rfl ?_
      refine WD.p (tb := tb) rfl rfl rfl rfl rfl ?_
      refine WD.p (tb := tb) rfl rfl rfl rfl rfl ?_
      refine WD.p (tb := tb) rfl rfl rfl rfl rfl ?_
      refine WD.p (tb := tb) rfl rfl rfl rfl rfl ?_
      refine WD.no rfl rfl rfl rfl ?_
      refine WD.no1 rfl rfl rfl rfl ?_
      refine WD.no rfl rfl rfl rfl ?_
      refine WD.p (tb := tb) rfl rfl rfl rfl rfl ?_
      refine WD.p (tb := tb) rfl rfl rfl rfl rfl ?_
      refine WD.no rfl rfl rfl rfl ?_
      refine WD.no rfl rfl rfl rfl ?_
      refine WD.no rfl rfl rfl rfl ?_
      refine WD.no1 rfl rfl rfl rfl ?_
      refine WD.no rfl rfl rfl rfl ?_
      refine WD.no1 rfl rfl rfl rfl ?_
      refine WD.no rfl rfl rfl rfl ?_
      refine WD.no rfl rfl rfl rfl ?_
      refine WD.no rfl rfl rfl rfl ?_
      refine WD.no1 rfl rfl rfl rfl ?_
      refine WD.no rfl rfl rfl rfl ?_
      refine WD.no rfl rfl rfl rfl ?_
      refine WD.p (tb := tb) rfl rfl rfl rfl rfl ?_
      refine WD.p (tb := tb) rfl rfl rfl rfl rfl ?_
      refine WD.fin rfl ?_
      refine WS.pcondF rfl rfl ?_
      refine WS.pskip rfl ?_
      refine WS.pregion rfl ?_
      refine WS.po (tb := tb) rfl rfl rfl rfl rfl ?_
      refine WS.poW (tb := tb) rfl rfl rfl rfl rfl (by simp only [lo]; omega) (by simp only [Am.hi]; omega) ?_
      refine WS.po (tb := tb) rfl rfl rfl rfl rfl ?_
      refine WS.pend rfl ?_
      refine WS.nil ?_
      exact ⟨k + 1, by omega, by omega, (SeenBy.seen (v := [0,1,2,3,4,5]) ⟨rfl, rfl, (by simp [viewP, okL, okV, mapL, mapV, mem_get, mapL_cellsR, okL_cellsR]), (by first | exact rfl | exact own2_dist rfl rfl), (by simp only [slotsP, okV, okL, mapV, mapL, and_true, true_and, List.length_cons, List.length_nil, List.length_append, List.length_map, Nat.reduceAdd, Nat.reduceLT]; repeat' (first | exact rfl | refine ⟨?_, ?_⟩ | exact lk_m rfl (hmp _ rfl) | exact hok _ (Nat.le_of_ble_eq_true rfl) | exact lk_i rfl (by omega) | exact lk_sl rfl (by omega) (by omega) (by omega) | decide | omega))⟩)⟩
    · refine WS.pseq rfl ?_
      refine WS.pseq rfl ?_
      refine WS.pregion rfl ?_
      refine WS.po (tb := tb) rfl rfl rfl rfl rfl ?_
      refine WS.po (tb := tb) rfl rfl rfl rfl rfl ?_
      refine WS.poDF (tb := tb) rfl rfl rfl rfl rfl (by omega) ?_
      refine WS.pend rfl ?_
      refine WS.pcondF rfl rfl ?_
      refine WS.pout rfl rfl ?_
      exact ⟨rfl, (), trivial, (SeenBy.seen (v := [0,1,2,3,4,5]) ⟨rfl, rfl, (by simp [viewP, okL, okV, mapL, mapV, mem_get, mapL_cellsR, okL_cellsR]), (by first | exact rfl | exact own2_dist rfl rfl), (by simp only [slotsP, okV, okL, mapV, mapL, and_true, true_and, List.length_cons, List.length_nil, List.length_append, List.length_map, Nat.reduceAdd, Nat.reduceLT]; repeat' (first | exact rfl | refine ⟨?_, ?_⟩ | exact lk_m rfl (hmp _ rfl) | exact hok _ (Nat.le_of_ble_eq_true rfl) | exact lk_i rfl (by omega) | exact lk_sl rfl (by omega) (by omega) (by omega) | decide | omega))⟩)⟩
  · rintro _ -
    refine WS.pseq rfl ?_
    refine WS.pregion rfl ?_
    refine WS.po (tb := tb) rfl rfl rfl rfl rfl ?_
    refine WS.poB (tb := tb) false rfl rfl rfl rfl rfl rfl ?_
    refine WS.po (tb := tb) rfl rfl rfl rfl rfl ?_
    refine WS.pono rfl rfl rfl rfl ?_
    refine WS.pono rfl rfl rfl rfl ?_
    refine WS.pono rfl rfl rfl rfl ?_
    refine WS.pono rfl rfl rfl rfl ?_
    refine WS.pono rfl rfl rfl rfl ?_
    refine WS.pono rfl rfl rfl rfl ?_
    refine WS.pono rfl rfl rfl rfl ?_
    refine WS.po (tb := tb) rfl rfl rfl rfl rfl ?_
    refine WS.pend rfl ?_
    refine WS.pcondF rfl rfl ?_
    refine WS.pskip rfl ?_
    refine WS.pregion rfl ?_
    refine WS.po (tb := tb) rfl rfl rfl rfl rfl ?_
    refine WS.poW (tb := tb) rfl rfl rfl rfl rfl (by simp only [lo]; omega) (by simp only [Am.hi]; omega) ?_
    refine WS.po (tb := tb) rfl rfl rfl rfl rfl ?_
    refine WS.pend rfl ?_
    refine WS.nil ?_
    exact ⟨⟨i + 1, t, q⟩, ⟨by dsimp only; omega, hlen, hb, hcnt⟩, by dsimp only; omega, (SeenBy.seen (v := [0,1,2]) ⟨rfl, rfl, (by simp [viewP, okL, okV, mapL, mapV, mem_get, mapL_cellsR, okL_cellsR, SSk, MMk]), (by first | exact rfl | exact own2_dist rfl rfl), (by simp only [slotsP, okV, okL, mapV, mapL, and_true, true_and, List.length_cons, List.length_nil, List.length_append, List.length_map, Nat.reduceAdd, Nat.reduceLT, SSk, MMk]; repeat' (first | exact rfl | refine ⟨?_, ?_⟩ | exact lk_m rfl (hmp _ rfl) | exact hok _ (Nat.le_of_ble_eq_true rfl) | exact lk_i rfl (by omega) | exact lk_sl rfl (by omega) (by omega) (by omega) | decide | omega))⟩)⟩

theorem kp_cbad (cap m : Nat) (l : List Act) (c i : Nat) (t : List Int) (q : Bool) (op z1 z2 phys : Int) (hop : op ≠ 0) (h : ¬ (1 ≤ z2 ∧ z2 ≤ cap ∧ 0 ≤ z1 ∧ z1 ≤ cap - z2)) (H : InvK cap m l.length ⟨i, t, q⟩) (hl : l.length ≤ 60) (hc0 : 1 ≤ cap) (hc : cap ≤ 64) (hm : m ≤ 512) (hx : l[i]? = some ⟨op, z1, z2, phys⟩) :
    WS Try.prog (frameN Try.f5 3) 1 [.c (k1 (k1 (k2 (k1 (k2 (k2 (k2 (k2 (kb Try.f5)))))))))] (slt (SSk cap m (some (0,0)) l.length c ⟨i, t, q⟩)) (mem 0 (MMk l cap m ⟨i, t, q⟩)) (PostK cap m l c ⟨i, t, q⟩) := by
  have hi : i < l.length := (List.getElem?_eq_some_iff.1 hx).1
  have hlen : t.length = cap := H.len
  have hb : Bnd t := H.bnd
  have hcnt : (runsN t cap).length ≤ m := H.cnt
  have T1 := table_walk t m q (by omega) (by omega)
  have CN := cnt_walk t m q (by omega) hb
  simp only [mapM, hlen] at CN
  have B := clear_walk_bad t m q z1 z2 (by omega) (by rw [hlen]; exact h)
  simp only [mapM, hlen] at B

  simp only [mapM, hlen, List.cons_append, List.nil_append] at T1
  simp only [SSk, MMk]
  refine WS.pseq rfl ?_
  refine WS.pseq rfl ?_
  refine WS.pregion rfl ?_
  refine WS.po (tb := tb) rfl rfl rfl rfl rfl ?_
  refine WS.po (tb := tb) rfl rfl rfl rfl rfl ?_
  refine WS.po (tb := tb) rfl rfl rfl rfl rfl ?_
  refine WS.poDT (tb := tb) rfl rfl rfl rfl rfl (by omega) ?_
  refine WS.pend rfl ?_
  refine WS.pcondT rfl rfl ?_
  refine WS.pskip rfl ?_
  refine WS.pseq rfl ?_
  refine WS.pblock rfl ?_
  refine WS.pseq rfl ?_
  refine WS.pregion rfl ?_
  refine WS.po (tb := tb) rfl rfl rfl rfl rfl ?_
  refine WS.po (tb := tb) rfl rfl rfl rfl rfl ?_
  refine WS.poP (tb := tb) rfl rfl rfl rfl (step_P (evP_index rfl rfl rfl rfl rfl rfl (by omega))) (by simp only [Nat.zero_add, Nat.add_zero, Nat.reduceAdd, Nat.reduceMul, Nat.add_assoc, Nat.mul_one]; exact rfl) ?_
  refine WS.poA (tb := tb) rfl rfl rfl rfl (step_R rfl (evR_loads rfl rfl rfl rfl rfl (by exact (cellsR_part0 (R := rwAct) hx (by exact Nat.le_of_ble_eq_true rfl))) (by exact rfl))) (by simp only [List.drop_zero, List.drop_succ_cons, List.take_succ_cons, List.take_zero, rwRun, rwAct]; exact rfl) ?_
  refine WS.po (tb := tb) rfl rfl rfl rfl rfl ?_; rw [new_mem]; simp only [List.cons_append, List.nil_append, vcells, mem_next, List.length_cons, List.length_nil, Nat.zero_add, Nat.reduceAdd, reps, List.append_nil, setL, List.set_cons_zero, List.set_cons_succ, Nat.zero_mul, Nat.reduceMul]
  refine WS.po0 (tb := tb) rfl rfl rfl rfl (step_H rfl rfl (evH_store rfl rfl rfl rfl rfl (Nat.zero_le _) rfl (by simp [vcells]) (Nat.le_of_ble_eq_true rfl))) ?_; rw [upd_mem _ rfl]; simp only [vcells, setL, List.set_cons_zero, List.set_cons_succ]
  refine WS.pend rfl ?_
  refine WS.pseq rfl ?_
  refine WS.pregion rfl ?_
  refine WS.po (tb := tb) rfl rfl rfl rfl rfl ?_
  refine WS.pcallM (tb := tb) [1,2] T1 rfl rfl rfl rfl rfl (by (try simp only [mapL, mapV, List.getD_cons_zero, List.getD_cons_succ]); exact rfl) (by simp [okL, okV]; fail_if_success exfalso) rfl (by simp [embP, okL, okV, mapL, mapV, mem_next, mem_get, mem_ro, mapL_cellsR, okL_cellsR]; fail_if_success exfalso) rfl ?_; rintro _ _ ⟨rfl, rfl⟩ -; simp only [plugL, setsL, newsL, isOwn, ownB, over, mapL, mapV, List.getD_cons_zero, List.getD_cons_succ, List.set_cons_zero, List.set_cons_succ, List.length_cons, List.length_nil, Nat.reduceAdd, Nat.reduceLT, Nat.zero_add, if_true, if_false, Nat.reduceSub, reduceIte, List.map_cons, List.map_nil, List.append_nil, List.cons_append, List.nil_append, mapL_cellsR, Nat.lt_irrefl, Nat.not_lt_zero, Nat.zero_lt_succ, Nat.lt_add_one]
  refine WS.po (tb := tb) rfl rfl rfl rfl rfl ?_
  refine WS.pend rfl ?_
  refine WS.pseq rfl ?_
  refine WS.pregion rfl ?_
  refine WS.po (tb := tb) rfl rfl rfl rfl rfl ?_
  refine WS.pend rfl ?_
  refine WS.pseq rfl ?_
  refine WS.pseq rfl ?_
  refine WS.pregion rfl ?_
  refine WS.poP (tb := tb) rfl rfl rfl rfl rfl (by simp only [List.getElem_toArray, List.getElem_cons_zero, List.getElem_cons_succ, Nat.zero_add, Nat.add_zero, Nat.reduceAdd, Nat.reduceMul, Nat.add_assoc, Nat.mul_one, Int.toNat_natCast, Int.reduceToNat, Int.toNat_zero, Nat.zero_mul]; exact rfl) ?_
  refine WS.po (tb := tb) rfl rfl rfl rfl rfl ?_
  refine WS.poDF (tb := tb) rfl rfl rfl rfl rfl (by omega) ?_
  refine WS.pend rfl ?_
  refine WS.pcondF rfl rfl ?_
  refine WS.pregion rfl ?_
  refine WS.po (tb := tb) rfl rfl rfl rfl rfl ?_
  refine WS.poP (tb := tb) rfl rfl rfl rfl rfl (by simp only [List.getElem_toArray, List.getElem_cons_zero, List.getElem_cons_succ, Nat.zero_add, Nat.add_zero, Nat.reduceAdd, Nat.reduceMul, Nat.add_assoc, Nat.mul_one, Int.toNat_natCast, Int.reduceToNat, Int.toNat_zero, Nat.zero_mul]; exact rfl) ?_
  refine WS.po (tb := tb) rfl rfl rfl rfl rfl ?_
  refine WS.poP (tb := tb) rfl rfl rfl rfl rfl (by simp only [List.getElem_toArray, List.getElem_cons_zero, List.getElem_cons_succ, Nat.zero_add, Nat.add_zero, Nat.reduceAdd, Nat.reduceMul, Nat.add_assoc, Nat.mul_one, Int.toNat_natCast, Int.reduceToNat, Int.toNat_zero, Nat.zero_mul]; exact rfl) ?_
  refine WS.po (tb := tb) rfl rfl rfl rfl rfl ?_
  refine WS.pcallM (tb := tb) [1,2] B rfl rfl rfl rfl rfl (by (try simp only [mapL, mapV, List.getD_cons_zero, List.getD_cons_succ]); exact rfl) (by simp [okL, okV]; fail_if_success exfalso) rfl (by simp [embP, okL, okV, mapL, mapV, mem_next, mem_get, mem_ro, mapL_cellsR, okL_cellsR]; fail_if_success exfalso) rfl ?_; rintro _ _ ⟨rfl, rfl⟩ -; simp only [plugL, setsL, newsL, isOwn, ownB, over, mapL, mapV, List.getD_cons_zero, List.getD_cons_succ, List.set_cons_zero, List.set_cons_succ, List.length_cons, List.length_nil, Nat.reduceAdd, Nat.reduceLT, Nat.zero_add, if_true, if_false, Nat.reduceSub, reduceIte, List.map_cons, List.map_nil, List.append_nil, List.cons_append, List.nil_append, mapL_cellsR, Nat.lt_irrefl, Nat.not_lt_zero, Nat.zero_lt_succ, Nat.lt_add_one]
  refine WS.po (tb := tb) rfl rfl rfl rfl rfl ?_
  refine WS.pend rfl ?_
  refine WS.pseq rfl ?_
  refine WS.pregion rfl ?_
  refine WS.po (tb := tb) rfl rfl rfl rfl rfl ?_
  refine WS.pcallM (tb := tb) [1,2] T1 rfl rfl rfl rfl rfl (by (try simp only [mapL, mapV, List.getD_cons_zero, List.getD_cons_succ]); exact rfl) (by simp [okL, okV]; fail_if_success exfalso) rfl (by simp [embP, okL, okV, mapL, mapV, mem_next, mem_get, mem_ro, mapL_cellsR, okL_cellsR]; fail_if_success exfalso) rfl ?_; rintro _ _ ⟨rfl, rfl⟩ -; simp only [plugL, setsL, newsL, isOwn, ownB, over, mapL, mapV, List.getD_cons_zero, List.getD_cons_succ, List.set_cons_zero, List.set_cons_succ, List.length_cons, List.length_nil, Nat.reduceAdd, Nat.reduceLT, Nat.zero_add, if_true, if_false, Nat.reduceSub, reduceIte, List.map_cons, List.map_nil, List.append_nil, List.cons_append, List.nil_append, mapL_cellsR, Nat.lt_irrefl, Nat.not_lt_zero, Nat.zero_lt_succ, Nat.lt_add_one]
  refine WS.po (tb := tb) rfl rfl rfl rfl rfl ?_
  refine WS.pend rfl ?_
  refine WS.pseq rfl ?_
  refine WS.pseq rfl ?_
  refine WS.pregion rfl ?_
  refine WS.po (tb := tb) rfl rfl rfl rfl rfl ?_
  refine WS.po (tb := tb) rfl rfl rfl rfl rfl ?_
  refine WS.po (tb := tb) rfl rfl rfl rfl rfl ?_
  refine WS.poNF (tb := tb) rfl rfl rfl rfl rfl (by omega) ?_
  refine WS.po (tb := tb) rfl rfl rfl rfl rfl ?_
  refine WS.po (tb := tb) rfl rfl rfl rfl rfl ?_
  refine WS.po (tb := tb) rfl rfl rfl rfl rfl ?_
  refine WS.po (tb := tb) rfl rfl rfl rfl rfl ?_
  refine WS.poNF (tb := tb) rfl rfl rfl rfl rfl (by omega) ?_
  refine WS.po (tb := tb) rfl rfl rfl rfl rfl ?_
  refine WS.po (tb := tb) rfl rfl rfl rfl rfl ?_
  refine WS.po (tb := tb) rfl rfl rfl rfl rfl ?_
  refine WS.pcallM (tb := tb) [1,2] CN rfl rfl rfl rfl rfl (by (try simp only [mapL, mapV, List.getD_cons_zero, List.getD_cons_succ]); exact rfl) (by simp [okL, okV]; fail_if_success exfalso) rfl (by simp [embP, okL, okV, mapL, mapV, mem_next, mem_get, mem_ro, mapL_cellsR, okL_cellsR]; fail_if_success exfalso) rfl ?_; rintro _ _ ⟨rfl, rfl⟩ -; simp only [plugL, setsL, newsL, isOwn, ownB, over, mapL, mapV, List.getD_cons_zero, List.getD_cons_succ, List.set_cons_zero, List.set_cons_succ, List.length_cons, List.length_nil, Nat.reduceAdd, Nat.reduceLT, Nat.zero_add, if_true, if_false, Nat.reduceSub, reduceIte, List.map_cons, List.map_nil, List.append_nil, List.cons_append, List.nil_append, mapL_cellsR, Nat.lt_irrefl, Nat.not_lt_zero, Nat.zero_lt_succ, Nat.lt_add_one]
  refine WS.po (tb := tb) rfl rfl rfl rfl rfl ?_
  refine WS.poDF (tb := tb) rfl rfl rfl rfl rfl (by omega) ?_
  refine WS.po (tb := tb) rfl rfl rfl rfl rfl ?_
  refine WS.pend rfl ?_
  refine WS.pcondF rfl rfl ?_
  refine WS.pskip rfl ?_
  refine WS.pseq rfl ?_
  refine WS.pseq rfl ?_
  refine WS.pregion rfl ?_
  refine WS.po (tb := tb) rfl rfl rfl rfl rfl ?_
  refine WS.pend rfl ?_
  refine WS.pblock rfl ?_
  refine WS.ploopI (σ := Nat) (τ := Unit) (fun k => [(0, .i .i64 cap), (1, .i .i64 m), (2, .sl (some (0,0)) l.length c false), (7, .p (some (2,0))), (9, .i .i64 i), (10, .p (some (3,0))), (11, .sl (some (4,0)) cap cap true), (12, .i .i64 1), (13, .sl (some (5,0)) cap cap true), (14, .i .i64 k)]) (fun _ => [some ⟨cellsR rwAct l, 34, false⟩, some ⟨cellsR (rwI .i64) t, 3, true⟩, some ⟨[.i .i64 m, .sl (some (1,0)) cap cap q], 59, true⟩, some ⟨[.i .i64 op, .i .i64 z1, .i .i64 z2, .i .i64 phys], 34, true⟩, some ⟨cellsR (rwI .i64) t, 3, true⟩, some ⟨cellsR (rwI .i64) t, 3, true⟩]) (fun k => k ≤ cap) (fun k => cap - k)
    (fun _ => [(0, .i .i64 cap), (1, .i .i64 m), (2, .sl (some (0,0)) l.length c false), (7, .p (some (2,0))), (9, .i .i64 i), (10, .p (some (3,0))), (12, .i .i64 1)]) (fun _ => [some ⟨cellsR rwAct l, 34, false⟩, some ⟨cellsR (rwI .i64) t, 3, true⟩, some ⟨[.i .i64 m, .sl (some (1,0)) cap cap q], 59, true⟩, some ⟨[.i .i64 op, .i .i64 z1, .i .i64 z2, .i .i64 phys], 34, true⟩, some ⟨cellsR (rwI .i64) t, 3, true⟩, some ⟨cellsR (rwI .i64) t, 3, true⟩]) (fun _ => True) 2 [0,1,2,3,4,5] 0 rfl (Nat.zero_le _) ⟨rfl, rfl, (by simp [viewP, okL, okV, mapL, mapV, mem_get, mapL_cellsR, okL_cellsR]), (by first | exact rfl | exact own2_dist rfl rfl), (by simp only [slotsP, okV, okL, mapV, mapL, and_true, true_and, List.length_cons, List.length_nil, List.length_append, List.length_map, Nat.reduceAdd, Nat.reduceLT]; repeat' (first | exact rfl | refine ⟨?_, ?_⟩ | exact lk_m rfl (hmp _ rfl) | exact hok _ (Nat.le_of_ble_eq_true rfl) | exact lk_i rfl (by omega) | exact lk_sl rfl (by omega) (by omega) (by omega) | decide | omega))⟩ rfl ?_ ?_
  · intro k hk
    by_cases h : k < cap
    · obtain ⟨w, hw⟩ : ∃ w, t[k]? = some w := ⟨_, List.getElem?_eq_getElem (by omega)⟩
      refine WS.pseq rfl ?_
      refine WS.pseq rfl ?_
      refine WS.pregion rfl ?_
      refine WS.po (tb := tb) rfl rfl rfl rfl rfl ?_
      refine WS.po (tb := tb) rfl rfl rfl rfl rfl ?_
      refine WS.poDT (tb := tb) rfl rfl rfl rfl rfl (by omega) ?_
      refine WS.pend rfl ?_
      refine WS.pcondT rfl rfl ?_
      refine WS.pskip rfl ?_
      refine WS.pseq rfl ?_
      refine WS.pblock rfl ?_
      refine WS.pseq rfl ?_
      refine WS.pregion rfl ?_
      refine WS.po (tb := tb) rfl rfl rfl rfl rfl ?_
      refine WS.poB (tb := tb) false rfl rfl rfl rfl rfl rfl ?_
      refine WS.po (tb := tb) rfl rfl rfl rfl rfl ?_
      refine WS.pono rfl rfl rfl rfl ?_
      refine WS.pono rfl rfl rfl rfl ?_
      refine WS.pono rfl rfl rfl rfl ?_
      refine WS.pono rfl rfl rfl rfl ?_
      refine WS.po (tb := tb) rfl rfl rfl rfl rfl ?_
      refine WS.po (tb := tb) rfl rfl rfl rfl rfl ?_
      refine WS.pono rfl rfl rfl rfl ?_
      refine WS.pono rfl rfl rfl rfl ?_
      refine WS.pono rfl rfl rfl rfl ?_
      refine WS.pono rfl rfl rfl rfl ?_
      refine WS.pono rfl rfl rfl rfl ?_
      refine WS.pono rfl rfl rfl rfl ?_
      refine WS.pono rfl rfl rfl rfl ?_
      refine WS.po (tb := tb) rfl rfl rfl rfl rfl ?_
      refine WS.po (tb := tb) rfl rfl rfl rfl rfl ?_
      refine WS.pend rfl ?_
      refine WS.pseq rfl ?_
      refine WS.pdraw (tb := tb) (by kernel_rfl) rfl (by kernel_rfl) (by kernel_rfl) ?_
      refine WD.p (tb := tb) rfl rfl rfl rfl rfl ?_
      refine WD.pB (tb := tb) true rfl rfl rfl rfl rfl rfl ?_
      refine WD.p (tb := tb) rfl rfl rfl rfl rfl ?_
      refine WD.p (tb := tb) rfl rfl rfl rfl rfl ?_
      refine WD.p (tb := tb) rfl rfl rfl rfl rfl ?_
      refine WD.pP (tb := tb) rfl rfl rfl rfl (evP_index rfl rfl rfl rfl rfl rfl (by omega)) (by simp only [Nat.zero_add, Nat.add_zero, Nat.reduceAdd, Nat.reduceMul, Nat.add_assoc, Nat.mul_one]; exact rfl) ?_
      refine WD.r (tb := tb) rfl rfl rfl rfl (evQ_R rfl (evR_load rfl rfl rfl rfl (cellsI_get hw))) ?_
      refine WD.p (tb := tb) rfl rfl rfl rfl rfl ?_
      refine WD.p (tb := tb) rfl rfl rfl rfl rfl ?_
      refine WD.pP (tb := tb) rfl rfl rfl rfl (evP_index rfl rfl rfl rfl rfl rfl (by omega)) (by simp only [Nat.zero_add, Nat.add_zero, Nat.reduceAdd, Nat.reduceMul, Nat.add_assoc, Nat.mul_one]; exact rfl) ?_
      refine WD.r (tb := tb) rfl rfl rfl rfl (evQ_R rfl (evR_load rfl rfl rfl rfl (cellsI_get hw))) ?_
      refine WD.pNF (tb := tb) rfl rfl rfl rfl rfl (by omega) ?_
      refine WD.p (tb := tb) rfl rfl rfl rfl rfl ?_
      refine WD.p (tb := tb) rfl rfl rfl rfl rfl ?_
      refine WD.p (tb := tb) rfl rfl rfl rfl rfl ?_
      refine WD.p (tb := tb) rfl rfl rfl rfl rfl ?_
      refine WD.no rfl rfl rfl rfl ?_
      refine WD.no1 rfl rfl rfl rfl ?_
      refine WD.no rfl rfl rfl rfl ?_
      refine WD.p (tb := tb) rfl rfl rfl rfl rfl ?_
      refine WD.p (tb := tb) rfl rfl rfl rfl rfl ?_
      refine WD.no rfl rfl rfl rfl ?_
      refine WD.no rfl rfl rfl rfl ?_
      refine WD.no rfl rfl rfl rfl ?_
      refine WD.no1 rfl rfl rfl rfl ?_
      refine WD.no rfl rfl rfl rfl ?_
      refine WD.p (tb := tb) rfl rfl rfl rfl rfl ?_
      refine WD.p (tb := tb) rfl rfl rfl rfl rfl ?_
      refine WD.p (tb := tb) rfl rfl rfl rfl rfl ?_
      refine WD.p (tb := tb) rfl rfl rfl rfl rfl ?_
      refine WD.p (tb := tb) rfl rfl rfl rfl rfl ?_
      refine WD.no rfl rfl rfl rfl ?_
      refine WD.no1 rfl rfl rfl rfl ?_
      refine WD.no rfl rfl rfl rfl ?_
      refine WD.p (tb := tb) rfl rfl rfl rfl rfl ?_
      refine WD.p (tb := tb) rfl rfl rfl rfl rfl ?_
      refine WD.no rfl rfl rfl rfl ?_
      refine WD.no rfl rfl rfl rfl ?_
      refine WD.no rfl rfl rfl rfl ?_
      refine WD.no1 rfl rfl rfl rfl ?_
      refine WD.no rfl rfl rfl rfl ?_
      refine WD.no1 rfl rfl rfl rfl ?_
      refine WD.no rfl rfl rfl rfl ?_
      refine WD.no rfl rfl rfl rfl ?_
      refine WD.no rfl rfl rfl rfl ?_
      refine WD.no1 rfl rfl rfl rfl ?_
      refine WD.no rfl rfl rfl rfl ?_
      refine WD.no rfl rfl rfl rfl ?_
      refine WD.p (tb := tb) rfl rfl rfl rfl rfl ?_
      refine WD.p (tb := tb) rfl rfl rfl rfl rfl ?_
      refine WD.fin rfl ?_
      refine WS.pcondF rfl rfl ?_
      refine WS.pskip rfl ?_
      refine WS.pregion rfl ?_
      refine WS.po (tb := tb) rfl rfl rfl rfl rfl ?_
      refine WS.poW (tb := tb) rfl rfl rfl rfl rfl (by simp only [lo]; omega) (by simp only [Am.hi]; omega) ?_
      refine WS.po (tb := tb) rfl rfl rfl rfl rfl ?_
      refine WS.pend rfl ?_
      refine WS.nil ?_
      exact ⟨k + 1, by omega, by omega, (SeenBy.seen (v := [0,1,2,3,4,5]) ⟨rfl, rfl, (by simp [viewP, okL, okV, mapL, mapV, mem_get, mapL_cellsR, okL_cellsR]), (by first | exact rfl | exact own2_dist rfl rfl), (by simp only [slotsP, okV, okL, mapV, mapL, and_true, true_and, List.length_cons, List.length_nil, List.length_append, List.length_map, Nat.reduceAdd, Nat.reduceLT]; repeat' (first | exact rfl | refine ⟨?_, ?_⟩ | exact lk_m rfl (hmp _ rfl) | exact hok _ (Nat.le_of_ble_eq_true rfl) | exact lk_i rfl (by omega) | exact lk_sl rfl (by omega) (by omega) (by omega) | decide | omega))⟩)⟩
    · refine WS.pseq rfl ?_
      refine WS.pseq rfl ?_
      refine WS.pregion rfl ?_
      refine WS.po (tb := tb) rfl rfl rfl rfl rfl ?_
      refine WS.po (tb := tb) rfl rfl rfl rfl rfl ?_
      refine WS.poDF (tb := tb) rfl rfl rfl rfl rfl (by omega) ?_
      refine WS.pend rfl ?_
      refine WS.pcondF rfl rfl ?_
      refine WS.pout rfl rfl ?_
      exact ⟨rfl, (), trivial, (SeenBy.seen (v := [0,1,2,3,4,5]) ⟨rfl, rfl, (by simp [viewP, okL, okV, mapL, mapV, mem_get, mapL_cellsR, okL_cellsR]), (by first | exact rfl | exact own2_dist rfl rfl), (by simp only [slotsP, okV, okL, mapV, mapL, and_true, true_and, List.length_cons, List.length_nil, List.length_append, List.length_map, Nat.reduceAdd, Nat.reduceLT]; repeat' (first | exact rfl | refine ⟨?_, ?_⟩ | exact lk_m rfl (hmp _ rfl) | exact hok _ (Nat.le_of_ble_eq_true rfl) | exact lk_i rfl (by omega) | exact lk_sl rfl (by omega) (by omega) (by omega) | decide | omega))⟩)⟩
  · rintro _ -
    refine WS.pseq rfl ?_
    refine WS.pregion rfl ?_
    refine WS.po (tb := tb) rfl rfl rfl rfl rfl ?_
    refine WS.poB (tb := tb) false rfl rfl rfl rfl rfl rfl ?_
    refine WS.po (tb := tb) rfl rfl rfl rfl rfl ?_
    refine WS.pono rfl rfl rfl rfl ?_
    refine WS.pono rfl rfl rfl rfl ?_
    refine WS.pono rfl rfl rfl rfl ?_
    refine WS.pono rfl rfl rfl rfl ?_
    refine WS.pono rfl rfl rfl rfl ?_
    refine WS.pono rfl rfl rfl rfl ?_
    refine WS.pono rfl rfl rfl rfl ?_
    refine WS.po (tb := tb) rfl rfl rfl rfl rfl ?_
    refine WS.pend rfl ?_
    refine WS.pcondF rfl rfl ?_
    refine WS.pskip rfl ?_
    refine WS.pregion rfl ?_
    refine WS.po (tb := tb) rfl rfl rfl rfl rfl ?_
    refine WS.poW (tb := tb) rfl rfl rfl rfl rfl (by simp only [lo]; omega) (by simp only [Am.hi]; omega) ?_
    refine WS.po (tb := tb) rfl rfl rfl rfl rfl ?_
    refine WS.pend rfl ?_
    refine WS.nil ?_
    exact ⟨⟨i + 1, t, q⟩, ⟨by dsimp only; omega, hlen, hb, hcnt⟩, by dsimp only; omega, (SeenBy.seen (v := [0,1,2]) ⟨rfl, rfl, (by simp [viewP, okL, okV, mapL, mapV, mem_get, mapL_cellsR, okL_cellsR, SSk, MMk]), (by first | exact rfl | exact own2_dist rfl rfl), (by simp only [slotsP, okV, okL, mapV, mapL, and_true, true_and, List.length_cons, List.length_nil, List.length_append, List.length_map, Nat.reduceAdd, Nat.reduceLT, SSk, MMk]; repeat' (first | exact rfl | refine ⟨?_, ?_⟩ | exact lk_m rfl (hmp _ rfl) | exact hok _ (Nat.le_of_ble_eq_true rfl) | exact lk_i rfl (by omega) | exact lk_sl rfl (by omega) (by omega) (by omega) | decide | omega))⟩)⟩

theorem kp_sfull (cap m : Nat) (l : List Act) (c i : Nat) (t : List Int) (q : Bool) (a n : Nat) (phys : Int) (h0 : 1 ≤ n) (h1 : a + n ≤ cap) (hp0 : 0 ≤ phys) (hp1 : phys ≤ 1048576) (hf : (m : Int) < (runsN (putN t a n (fun i : Nat => phys + (i : Int))) cap).length) (H : InvK cap m l.length ⟨i, t, q⟩) (hl : l.length ≤ 60) (hc0 : 1 ≤ cap) (hc : cap ≤ 64) (hm : m ≤ 512) (hx : l[i]? = some ⟨0, a, n, phys⟩) :
    WS Try.prog (frameN Try.f5 3) 1 [.c (k1 (k1 (k2 (k1 (k2 (k2 (k2 (k2 (kb Try.f5)))))))))] (slt (SSk cap m (some (0,0)) l.length c ⟨i, t, q⟩)) (mem 0 (MMk l cap m ⟨i, t, q⟩)) (PostK cap m l c ⟨i, t, q⟩) := by
  have hi : i < l.length := (List.getElem?_eq_some_iff.1 hx).1
  have hlen : t.length = cap := H.len
  have hb : Bnd t := H.bnd
  have hcnt : (runsN t cap).length ≤ m := H.cnt
  have T1 := table_walk t m q (by omega) (by omega)
  have CN := cnt_walk t m q (by omega) hb
  simp only [mapM, hlen] at CN
  have B := set_walk_full t m q a n phys hp0 hp1 h0 (by omega) (by omega) hb (by rw [hlen]; exact hf)
  simp only [mapM, hlen] at B

  simp only [mapM, hlen, List.cons_append, List.nil_append] at T1
  simp only [SSk, MMk]
  refine WS.pseq rfl ?_
  refine WS.pseq rfl ?_
  refine WS.pregion rfl ?_
  refine WS.po (tb := tb) rfl rfl rfl rfl rfl ?_
  refine WS.po (tb := tb) rfl rfl rfl rfl rfl ?_
  refine WS.po (tb := tb) rfl rfl rfl rfl rfl ?_
  refine WS.poDT (tb := tb) rfl rfl rfl rfl rfl (by omega) ?_
  refine WS.pend rfl ?_
  refine WS.pcondT rfl rfl ?_
  refine WS.pskip rfl ?_
  refine WS.pseq rfl ?_
  refine WS.pblock rfl ?_
  refine WS.pseq rfl ?_
  refine WS.pregion rfl ?_
  refine WS.po (tb := tb) rfl rfl rfl rfl rfl ?_
  refine WS.po (tb := tb) rfl rfl rfl rfl rfl ?_
  refine WS.poP (tb := tb) rfl rfl rfl rfl (step_P (evP_index rfl rfl rfl rfl rfl rfl (by omega))) (by simp only [Nat.zero_add, Nat.add_zero, Nat.reduceAdd, Nat.reduceMul, Nat.add_assoc, Nat.mul_one]; exact rfl) ?_
  refine WS.poA (tb := tb) rfl rfl rfl rfl (step_R rfl (evR_loads rfl rfl rfl rfl rfl (by exact (cellsR_part0 (R := rwAct) hx (by exact Nat.le_of_ble_eq_true rfl))) (by exact rfl))) (by simp only [List.drop_zero, List.drop_succ_cons, List.take_succ_cons, List.take_zero, rwRun, rwAct]; exact rfl) ?_
  refine WS.po (tb := tb) rfl rfl rfl rfl rfl ?_; rw [new_mem]; simp only [List.cons_append, List.nil_append, vcells, mem_next, List.length_cons, List.length_nil, Nat.zero_add, Nat.reduceAdd, reps, List.append_nil, setL, List.set_cons_zero, List.set_cons_succ, Nat.zero_mul, Nat.reduceMul]
  refine WS.po0 (tb := tb) rfl rfl rfl rfl (step_H rfl rfl (evH_store rfl rfl rfl rfl rfl (Nat.zero_le _) rfl (by simp [vcells]) (Nat.le_of_ble_eq_true rfl))) ?_; rw [upd_mem _ rfl]; simp only [vcells, setL, List.set_cons_zero, List.set_cons_succ]
  refine WS.pend rfl ?_
  refine WS.pseq rfl ?_
  refine WS.pregion rfl ?_
  refine WS.po (tb := tb) rfl rfl rfl rfl rfl ?_
  refine WS.pcallM (tb := tb) [1,2] T1 rfl rfl rfl rfl rfl (by (try simp only [mapL, mapV, List.getD_cons_zero, List.getD_cons_succ]); exact rfl) (by simp [okL, okV]; fail_if_success exfalso) rfl (by simp [embP, okL, okV, mapL, mapV, mem_next, mem_get, mem_ro, mapL_cellsR, okL_cellsR]; fail_if_success exfalso) rfl ?_; rintro _ _ ⟨rfl, rfl⟩ -; simp only [plugL, setsL, newsL, isOwn, ownB, over, mapL, mapV, List.getD_cons_zero, List.getD_cons_succ, List.set_cons_zero, List.set_cons_succ, List.length_cons, List.length_nil, Nat.reduceAdd, Nat.reduceLT, Nat.zero_add, if_true, if_false, Nat.reduceSub, reduceIte, List.map_cons, List.map_nil, List.append_nil, List.cons_append, List.nil_append, mapL_cellsR, Nat.lt_irrefl, Nat.not_lt_zero, Nat.zero_lt_succ, Nat.lt_add_one]
  refine WS.po (tb := tb) rfl rfl rfl rfl rfl ?_
  refine WS.pend rfl ?_
  refine WS.pseq rfl ?_
  refine WS.pregion rfl ?_
  refine WS.po (tb := tb) rfl rfl rfl rfl rfl ?_
  refine WS.pend rfl ?_
  refine WS.pseq rfl ?_
  refine WS.pseq rfl ?_
  refine WS.pregion rfl ?_
  refine WS.poP (tb := tb) rfl rfl rfl rfl rfl (by simp only [List.getElem_toArray, List.getElem_cons_zero, List.getElem_cons_succ, Nat.zero_add, Nat.add_zero, Nat.reduceAdd, Nat.reduceMul, Nat.add_assoc, Nat.mul_one, Int.toNat_natCast, Int.reduceToNat, Int.toNat_zero, Nat.zero_mul]; exact rfl) ?_
  refine WS.po (tb := tb) rfl rfl rfl rfl rfl ?_
  refine WS.poB (tb := tb) true rfl rfl rfl rfl rfl rfl ?_
  refine WS.pend rfl ?_
  refine WS.pcondT rfl rfl ?_
  refine WS.pregion rfl ?_
  refine WS.po (tb := tb) rfl rfl rfl rfl rfl ?_
  refine WS.poP (tb := tb) rfl rfl rfl rfl rfl (by simp only [List.getElem_toArray, List.getElem_cons_zero, List.getElem_cons_succ, Nat.zero_add, Nat.add_zero, Nat.reduceAdd, Nat.reduceMul, Nat.add_assoc, Nat.mul_one, Int.toNat_natCast, Int.reduceToNat, Int.toNat_zero, Nat.zero_mul]; exact rfl) ?_
  refine WS.po (tb := tb) rfl rfl rfl rfl rfl ?_
  refine WS.poP (tb := tb) rfl rfl rfl rfl rfl (by simp only [List.getElem_toArray, List.getElem_cons_zero, List.getElem_cons_succ, Nat.zero_add, Nat.add_zero, Nat.reduceAdd, Nat.reduceMul, Nat.add_assoc, Nat.mul_one, Int.toNat_natCast, Int.reduceToNat, Int.toNat_zero, Nat.zero_mul]; exact rfl) ?_
  refine WS.po (tb := tb) rfl rfl rfl rfl rfl ?_
  refine WS.poP (tb := tb) rfl rfl rfl rfl rfl (by simp only [List.getElem_toArray, List.getElem_cons_zero, List.getElem_cons_succ, Nat.zero_add, Nat.add_zero, Nat.reduceAdd, Nat.reduceMul, Nat.add_assoc, Nat.mul_one, Int.toNat_natCast, Int.reduceToNat, Int.toNat_zero, Nat.zero_mul]; exact rfl) ?_
  refine WS.po (tb := tb) rfl rfl rfl rfl rfl ?_
  refine WS.pcallM (tb := tb) [1,2] B rfl rfl rfl rfl rfl (by (try simp only [mapL, mapV, List.getD_cons_zero, List.getD_cons_succ]); exact rfl) (by simp [okL, okV]; fail_if_success exfalso) rfl (by simp [embP, okL, okV, mapL, mapV, mem_next, mem_get, mem_ro, mapL_cellsR, okL_cellsR]; fail_if_success exfalso) rfl ?_; rintro _ _ ⟨rfl, rfl⟩ -; simp only [plugL, setsL, newsL, isOwn, ownB, over, mapL, mapV, List.getD_cons_zero, List.getD_cons_succ, List.set_cons_zero, List.set_cons_succ, List.length_cons, List.length_nil, Nat.reduceAdd, Nat.reduceLT, Nat.zero_add, if_true, if_false, Nat.reduceSub, reduceIte, List.map_cons, List.map_nil, List.append_nil, List.cons_append, List.nil_append, mapL_cellsR, Nat.lt_irrefl, Nat.not_lt_zero, Nat.zero_lt_succ, Nat.lt_add_one]
  refine WS.po (tb := tb) rfl rfl rfl rfl rfl ?_
  refine WS.pend rfl ?_
  refine WS.pseq rfl ?_
  refine WS.pregion rfl ?_
  refine WS.po (tb := tb) rfl rfl rfl rfl rfl ?_
  refine WS.pcallM (tb := tb) [1,2] T1 rfl rfl rfl rfl rfl (by (try simp only [mapL, mapV, List.getD_cons_zero, List.getD_cons_succ]); exact rfl) (by simp [okL, okV]; fail_if_success exfalso) rfl (by simp [embP, okL, okV, mapL, mapV, mem_next, mem_get, mem_ro, mapL_cellsR, okL_cellsR]; fail_if_success exfalso) rfl ?_; rintro _ _ ⟨rfl, rfl⟩ -; simp only [plugL, setsL, newsL, isOwn, ownB, over, mapL, mapV, List.getD_cons_zero, List.getD_cons_succ, List.set_cons_zero, List.set_cons_succ, List.length_cons, List.length_nil, Nat.reduceAdd, Nat.reduceLT, Nat.zero_add, if_true, if_false, Nat.reduceSub, reduceIte, List.map_cons, List.map_nil, List.append_nil, List.cons_append, List.nil_append, mapL_cellsR, Nat.lt_irrefl, Nat.not_lt_zero, Nat.zero_lt_succ, Nat.lt_add_one]
  refine WS.po (tb := tb) rfl rfl rfl rfl rfl ?_
  refine WS.pend rfl ?_
  refine WS.pseq rfl ?_
  refine WS.pseq rfl ?_
  refine WS.pregion rfl ?_
  refine WS.po (tb := tb) rfl rfl rfl rfl rfl ?_
  refine WS.po (tb := tb) rfl rfl rfl rfl rfl ?_
  refine WS.po (tb := tb) rfl rfl rfl rfl rfl ?_
  refine WS.poNF (tb := tb) rfl rfl rfl rfl rfl (by omega) ?_
  refine WS.po (tb := tb) rfl rfl rfl rfl rfl ?_
  refine WS.po (tb := tb) rfl rfl rfl rfl rfl ?_
  refine WS.po (tb := tb) rfl rfl rfl rfl rfl ?_
  refine WS.po (tb := tb) rfl rfl rfl rfl rfl ?_
  refine WS.poNF (tb := tb) rfl rfl rfl rfl rfl (by omega) ?_
  refine WS.po (tb := tb) rfl rfl rfl rfl rfl ?_
  refine WS.po (tb := tb) rfl rfl rfl rfl rfl ?_
  refine WS.po (tb := tb) rfl rfl rfl rfl rfl ?_
  refine WS.pcallM (tb := tb) [1,2] CN rfl rfl rfl rfl rfl (by (try simp only [mapL, mapV, List.getD_cons_zero, List.getD_cons_succ]); exact rfl) (by simp [okL, okV]; fail_if_success exfalso) rfl (by simp [embP, okL, okV, mapL, mapV, mem_next, mem_get, mem_ro, mapL_cellsR, okL_cellsR]; fail_if_success exfalso) rfl ?_; rintro _ _ ⟨rfl, rfl⟩ -; simp only [plugL, setsL, newsL, isOwn, ownB, over, mapL, mapV, List.getD_cons_zero, List.getD_cons_succ, List.set_cons_zero, List.set_cons_succ, List.length_cons, List.length_nil, Nat.reduceAdd, Nat.reduceLT, Nat.zero_add, if_true, if_false, Nat.reduceSub, reduceIte, List.map_cons, List.map_nil, List.append_nil, List.cons_append, List.nil_append, mapL_cellsR, Nat.lt_irrefl, Nat.not_lt_zero, Nat.zero_lt_succ, Nat.lt_add_one]
  refine WS.po (tb := tb) rfl rfl rfl rfl rfl ?_
  refine WS.poDF (tb := tb) rfl rfl rfl rfl rfl (by omega) ?_
  refine WS.po (tb := tb) rfl rfl rfl rfl rfl ?_
  refine WS.pend rfl ?_
  refine WS.pcondF rfl rfl ?_
  refine WS.pskip rfl ?_
  refine WS.pseq rfl ?_
  refine WS.pseq rfl ?_
  refine WS.pregion rfl ?_
  refine WS.po (tb := tb) rfl rfl rfl rfl rfl ?_
  refine WS.pend rfl ?_
  refine WS.pblock rfl ?_
  refine WS.ploopI (σ := Nat) (τ := Unit) (fun k => [(0, .i .i64 cap), (1, .i .i64 m), (2, .sl (some (0,0)) l.length c false), (7, .p (some (2,0))), (9, .i .i64 i), (10, .p (some (3,0))), (11, .sl (some (4,0)) cap cap true), (12, .i .i64 5), (13, .sl (some (5,0)) cap cap true), (14, .i .i64 k)]) (fun _ => [some ⟨cellsR rwAct l, 34, false⟩, some ⟨cellsR (rwI .i64) t, 3, true⟩, some ⟨[.i .i64 m, .sl (some (1,0)) cap cap q], 59, true⟩, some ⟨[.i .i64 0, .i .i64 a, .i .i64 n, .i .i64 phys], 34, true⟩, some ⟨cellsR (rwI .i64) t, 3, true⟩, some ⟨cellsR (rwI .i64) t, 3, true⟩]) (fun k => k ≤ cap) (fun k => cap - k)
    (fun _ => [(0, .i .i64 cap), (1, .i .i64 m), (2, .sl (some (0,0)) l.length c false), (7, .p (some (2,0))), (9, .i .i64 i), (10, .p (some (3,0))), (12, .i .i64 5)]) (fun _ => [some ⟨cellsR rwAct l, 34, false⟩, some ⟨cellsR (rwI .i64) t, 3, true⟩, some ⟨[.i .i64 m, .sl (some (1,0)) cap cap q], 59, true⟩, some ⟨[.i .i64 0, .i .i64 a, .i .i64 n, .i .i64 phys], 34, true⟩, some ⟨cellsR (rwI .i64) t, 3, true⟩, some ⟨cellsR (rwI .i64) t, 3, true⟩]) (fun _ => True) 2 [0,1,2,3,4,5] 0 rfl (Nat.zero_le _) ⟨rfl, rfl, (by simp [viewP, okL, okV, mapL, mapV, mem_get, mapL_cellsR, okL_cellsR]), (by first | exact rfl | exact own2_dist rfl rfl), (by simp only [slotsP, okV, okL, mapV, mapL, and_true, true_and, List.length_cons, List.length_nil, List.length_append, List.length_map, Nat.reduceAdd, Nat.reduceLT]; repeat' (first | exact rfl | refine ⟨?_, ?_⟩ | exact lk_m rfl (hmp _ rfl) | exact hok _ (Nat.le_of_ble_eq_true rfl) | exact lk_i rfl (by omega) | exact lk_sl rfl (by omega) (by omega) (by omega) | decide | omega))⟩ rfl ?_ ?_
  · intro k hk
    by_cases h : k < cap
    · obtain ⟨w, hw⟩ : ∃ w, t[k]? = some w := ⟨_, List.getElem?_eq_getElem (by omega)⟩
      refine WS.pseq rfl ?_
      refine WS.pseq rfl ?_
      refine WS.pregion rfl ?_
      refine WS.po (tb := tb) rfl rfl rfl rfl rfl ?_
      refine WS.po (tb := tb) rfl rfl rfl rfl rfl ?_
      refine WS.poDT (tb := tb) rfl rfl rfl rfl rfl (by omega) ?_
      refine WS.pend rfl ?_
      refine WS.pcondT rfl rfl ?_
      refine WS.pskip rfl ?_
      refine WS.pseq rfl ?_
      refine WS.pblock rfl ?_
      refine WS.pseq rfl ?_
      refine WS.pregion rfl ?_
      refine WS.po (tb := tb) rfl rfl rfl rfl rfl ?_
      refine WS.poB (tb := tb) false rfl rfl rfl rfl rfl rfl ?_
      refine WS.po (tb := tb) rfl rfl rfl rfl rfl ?_
      refine WS.pono rfl rfl rfl rfl ?_
      refine WS.pono rfl rfl rfl rfl ?_
      refine WS.pono rfl rfl rfl rfl ?_
      refine WS.pono rfl rfl rfl rfl ?_
      refine WS.po (tb := tb) rfl rfl rfl rfl rfl ?_
      refine WS.po (tb := tb) rfl rfl rfl rfl rfl ?_
      refine WS.pono rfl rfl rfl rfl ?_
      refine WS.pono rfl rfl rfl rfl ?_
      refine WS.pono rfl rfl rfl rfl ?_
      refine WS.pono rfl rfl rfl rfl ?_
      refine WS.pono rfl rfl rfl rfl ?_
      refine WS.pono rfl rfl rfl rfl ?_
      refine WS.pono rfl rfl rfl rfl ?_
      refine WS.po (tb := tb) rfl rfl rfl rfl rfl ?_
      refine WS.po (tb := tb) rfl rfl rfl rfl rfl ?_
      refine WS.pend rfl ?_
      refine WS.pseq rfl ?_
      refine WS.pdraw (tb := tb) (by kernel_rfl) rfl (by kernel_rfl) (by kernel_rfl) ?_
      refine WD.p (tb := tb) rfl rfl rfl rfl rfl ?_
      refine WD.pB (tb := tb) true rfl rfl rfl rfl rfl rfl ?_
      refine WD.p (tb := tb) rfl rfl rfl rfl rfl ?_
      refine WD.p (tb := tb) rfl rfl rfl rfl rfl ?_
      refine WD.p (tb := tb) rfl rfl rfl rfl rfl ?_
      refine WD.pP (tb := tb) rfl rfl rfl rfl (evP_index rfl rfl rfl rfl rfl rfl (by omega)) (by simp only [Nat.zero_add, Nat.add_zero, Nat.reduceAdd, Nat.reduceMul, Nat.add_assoc, Nat.mul_one]; exact rfl) ?_
      refine WD.r (tb := tb) rfl rfl rfl rfl (evQ_R rfl (evR_load rfl rfl rfl rfl (cellsI_get hw))) ?_
      refine WD.p (tb := tb) rfl rfl rfl rfl rfl ?_
      refine WD.p (tb := tb) rfl rfl rfl rfl rfl ?_
      refine WD.pP (tb := tb) rfl rfl rfl rfl (evP_index rfl rfl rfl rfl rfl rfl (by omega)) (by simp only [Nat.zero_add, Nat.add_zero, Nat.reduceAdd, Nat.reduceMul, Nat.add_assoc, Nat.mul_one]; exact rfl) ?_
      refine WD.r (tb := tb) rfl rfl rfl rfl (evQ_R rfl (evR_load rfl rfl rfl rfl (cellsI_get hw))) ?_
      refine WD.pNF (tb := tb) rfl rfl rfl rfl rfl (by omega) ?_
      refine WD.p (tb := tb) rfl rfl rfl rfl rfl ?_
      refine WD.p (tb := tb) rfl rfl rfl rfl rfl ?_
      refine WD.p (tb := tb) rfl rfl rfl rfl rfl ?_
      refine WD.p (tb := tb) rfl rfl rfl rfl rfl ?_
      refine WD.no rfl rfl rfl rfl ?_
      refine WD.no1 rfl rfl rfl rfl ?_
      refine WD.no rfl rfl rfl rfl ?_
      refine WD.p (tb := tb) rfl rfl rfl rfl rfl ?_
      refine WD.p (tb := tb) rfl rfl rfl rfl rfl ?_
      refine WD.no rfl rfl rfl rfl ?_
      refine WD.no rfl rfl rfl rfl ?_
      refine WD.no rfl rfl rfl rfl ?_
      refine WD.no1 rfl rfl rfl rfl ?_
      refine WD.no rfl rfl rfl rfl ?_
      refine WD.p (tb := tb) rfl rfl rfl rfl rfl ?_
      refine WD.p (tb := tb) rfl rfl rfl rfl rfl ?_
      refine WD.p (tb := tb) rfl rfl rfl rfl rfl ?_
      refine WD.p (tb := tb) rfl rfl rfl rfl rfl ?_
      refine WD.p (tb := tb) rfl rfl rfl rfl rfl ?_
      refine WD.no rfl rfl rfl rfl ?_
      refine WD.no1 rfl rfl rfl rfl ?_
      refine WD.no rfl rfl rfl rfl ?_
      refine WD.p (tb := tb) rfl rfl rfl rfl rfl ?_
      refine WD.p (tb := tb) rfl rfl rfl rfl rfl ?_
      refine WD.no rfl rfl rfl rfl ?_
      refine WD.no rfl rfl rfl rfl ?_
      refine WD.no rfl rfl rfl rfl ?_
      refine WD.no1 rfl rfl rfl rfl ?_
      refine WD.no rfl rfl rfl rfl ?_
      refine WD.no1 rfl rfl rfl rfl ?_
      refine WD.no rfl rfl rfl rfl ?_
      refine WD.no rfl rfl rfl rfl ?_
      refine WD.no rfl rfl rfl rfl ?_
      refine WD.no1 rfl rfl rfl rfl ?_
      refine WD.no rfl rfl rfl rfl ?_
      refine WD.no rfl rfl rfl rfl ?_
      refine WD.p (tb := tb) rfl rfl rfl rfl rfl ?_
      refine WD.p (tb := tb) rfl rfl rfl rfl rfl ?_
      refine WD.fin rfl ?_
      refine WS.pcondF rfl rfl ?_
      refine WS.pskip rfl ?_
      refine WS.pregion rfl ?_
      refine WS.po (tb := tb) rfl rfl rfl rfl rfl ?_
      refine WS.poW (tb := tb) rfl rfl rfl rfl rfl (by simp only [lo]; omega) (by simp only [Am.hi]; omega) ?_
      refine WS.po (tb := tb) rfl rfl rfl rfl rfl ?_
      refine WS.pend rfl ?_
      refine WS.nil ?_
      exact ⟨k + 1, by omega, by omega, (SeenBy.seen (v := [0,1,2,3,4,5]) ⟨rfl, rfl, (by simp [viewP, okL, okV, mapL, mapV, mem_get, mapL_cellsR, okL_cellsR]), (by first | exact rfl | exact own2_dist rfl rfl), (by simp only [slotsP, okV, okL, mapV, mapL, and_true, true_and, List.length_cons, List.length_nil, List.length_append, List.length_map, Nat.reduceAdd, Nat.reduceLT]; repeat' (first | exact rfl | refine ⟨?_, ?_⟩ | exact lk_m rfl (hmp _ rfl) | exact hok _ (Nat.le_of_ble_eq_true rfl) | exact lk_i rfl (by omega) | exact lk_sl rfl (by omega) (by omega) (by omega) | decide | omega))⟩)⟩
    · refine WS.pseq rfl ?_
      refine WS.pseq rfl ?_
      refine WS.pregion rfl ?_
      refine WS.po (tb := tb) rfl rfl rfl rfl rfl ?_
      refine WS.po (tb := tb) rfl rfl rfl rfl rfl ?_
      refine WS.poDF (tb := tb) rfl rfl rfl rfl rfl (by omega) ?_
      refine WS.pend rfl ?_
      refine WS.pcondF rfl rfl ?_
      refine WS.pout rfl rfl ?_
      exact ⟨rfl, (), trivial, (SeenBy.seen (v := [0,1,2,3,4,5]) ⟨rfl, rfl, (by simp [viewP, okL, okV, mapL, mapV, mem_get, mapL_cellsR, okL_cellsR]), (by first | exact rfl | exact own2_dist rfl rfl), (by simp only [slotsP, okV, okL, mapV, mapL, and_true, true_and, List.length_cons, List.length_nil, List.length_append, List.length_map, Nat.reduceAdd, Nat.reduceLT]; repeat' (first | exact rfl | refine ⟨?_, ?_⟩ | exact lk_m rfl (hmp _ rfl) | exact hok _ (Nat.le_of_ble_eq_true rfl) | exact lk_i rfl (by omega) | exact lk_sl rfl (by omega) (by omega) (by omega) | decide | omega))⟩)⟩
  · rintro _ -
    refine WS.pseq rfl ?_
    refine WS.pregion rfl ?_
    refine WS.po (tb := tb) rfl rfl rfl rfl rfl ?_
    refine WS.poB (tb := tb) false rfl rfl rfl rfl rfl rfl ?_
    refine WS.po (tb := tb) rfl rfl rfl rfl rfl ?_
    refine WS.pono rfl rfl rfl rfl ?_
    refine WS.pono rfl rfl rfl rfl ?_
    refine WS.pono rfl rfl rfl rfl ?_
    refine WS.pono rfl rfl rfl rfl ?_
    refine WS.pono rfl rfl rfl rfl ?_
    refine WS.pono rfl rfl rfl rfl ?_
    refine WS.pono rfl rfl rfl rfl ?_
    refine WS.po (tb := tb) rfl rfl rfl rfl rfl ?_
    refine WS.pend rfl ?_
    refine WS.pcondF rfl rfl ?_
    refine WS.pskip rfl ?_
    refine WS.pregion rfl ?_
    refine WS.po (tb := tb) rfl rfl rfl rfl rfl ?_
    refine WS.poW (tb := tb) rfl rfl rfl rfl rfl (by simp only [lo]; omega) (by simp only [Am.hi]; omega) ?_
    refine WS.po (tb := tb) rfl rfl rfl rfl rfl ?_
    refine WS.pend rfl ?_
    refine WS.nil ?_
    exact ⟨⟨i + 1, t, q⟩, ⟨by dsimp only; omega, hlen, hb, hcnt⟩, by dsimp only; omega, (SeenBy.seen (v := [0,1,2]) ⟨rfl, rfl, (by simp [viewP, okL, okV, mapL, mapV, mem_get, mapL_cellsR, okL_cellsR, SSk, MMk]), (by first | exact rfl | exact own2_dist rfl rfl), (by simp only [slotsP, okV, okL, mapV, mapL, and_true, true_and, List.length_cons, List.length_nil, List.length_append, List.length_map, Nat.reduceAdd, Nat.reduceLT, SSk, MMk]; repeat' (first | exact rfl | refine ⟨?_, ?_⟩ | exact lk_m rfl (hmp _ rfl) | exact hok _ (Nat.le_of_ble_eq_true rfl) | exact lk_i rfl (by omega) | exact lk_sl rfl (by omega) (by omega) (by omega) | decide | omega))⟩)⟩

theorem kp_sok (cap m : Nat) (l : List Act) (c i : Nat) (t : List Int) (q : Bool) (a n : Nat) (phys : Int) (h0 : 1 ≤ n) (h1 : a + n ≤ cap) (hp0 : 0 ≤ phys) (hp1 : phys ≤ 1048576) (hf : ¬ (m : Int) < (runsN (putN t a n (fun i : Nat => phys + (i : Int))) cap).length) (H : InvK cap m l.length ⟨i, t, q⟩) (hl : l.length ≤ 60) (hc0 : 1 ≤ cap) (hc : cap ≤ 64) (hm : m ≤ 512) (hx : l[i]? = some ⟨0, a, n, phys⟩) :
    WS Try.prog (frameN Try.f5 3) 1 [.c (k1 (k1 (k2 (k1 (k2 (k2 (k2 (k2 (kb Try.f5)))))))))] (slt (SSk cap m (some (0,0)) l.length c ⟨i, t, q⟩)) (mem 0 (MMk l cap m ⟨i, t, q⟩)) (PostK cap m l c ⟨i, t, q⟩) := by
  have hi : i < l.length := (List.getElem?_eq_some_iff.1 hx).1
  have hlen : t.length = cap := H.len
  have hb : Bnd t := H.bnd
  have hcnt : (runsN t cap).length ≤ m := H.cnt
  have T1 := table_walk t m q (by omega) (by omega)
  have hlenu : (putN t a n (fun i : Nat => phys + (i : Int))).length = cap := by rw [putN_len, hlen]
  have hbu : Bnd (putN t a n (fun i : Nat => phys + (i : Int))) := putN_bnd hb fun j hj => by omega
  have CN := cnt_walk (putN t a n (fun i : Nat => phys + (i : Int))) m true (by omega) hbu
  have T2 := table_walk (putN t a n (fun i : Nat => phys + (i : Int))) m true (by omega) (by omega)
  simp only [mapM, hlenu, List.cons_append, List.nil_append] at CN T2
  have B := set_walk_ok t m q a n phys hp0 hp1 h0 (by omega) (by omega) hb (by rw [hlen]; exact hf)
  simp only [mapM, hlen, List.cons_append, List.nil_append] at B

  simp only [mapM, hlen, List.cons_append, List.nil_append] at T1
  simp only [SSk, MMk]
  refine WS.pseq rfl ?_
  refine WS.pseq rfl ?_
  refine WS.pregion rfl ?_
  refine WS.po (tb := tb) rfl rfl rfl rfl rfl ?_
  refine WS.po (tb := tb) rfl rfl rfl rfl rfl ?_
  refine WS.po (tb := tb) rfl rfl rfl rfl rfl ?_
  refine WS.poDT (tb := tb) rfl rfl rfl rfl rfl (by omega) ?_
  refine WS.pend rfl ?_
  refine WS.pcondT rfl rfl ?_
  refine WS.pskip rfl ?_
  refine WS.pseq rfl ?_
  refine WS.pblock rfl ?_
  refine WS.pseq rfl ?_
  refine WS.pregion rfl ?_
  refine WS.po (tb := tb) rfl rfl rfl rfl rfl ?_
  refine WS.po (tb := tb) rfl rfl rfl rfl rfl ?_
  refine WS.poP (tb := tb) rfl rfl rfl rfl (step_P (evP_index rfl rfl rfl rfl rfl rfl (by omega))) (by simp only [Nat.zero_add, Nat.add_zero, Nat.reduceAdd, Nat.reduceMul, Nat.add_assoc, Nat.mul_one]; exact rfl) ?_
  refine WS.poA (tb := tb) rfl rfl rfl rfl (step_R rfl (evR_loads rfl rfl rfl rfl rfl (by exact (cellsR_part0 (R := rwAct) hx (by exact Nat.le_of_ble_eq_true rfl))) (by exact rfl))) (by simp only [List.drop_zero, List.drop_succ_cons, List.take_succ_cons, List.take_zero, rwRun, rwAct]; exact rfl) ?_
  refine WS.po (tb := tb) rfl rfl rfl rfl rfl ?_; rw [new_mem]; simp only [List.cons_append, List.nil_append, vcells, mem_next, List.length_cons, List.length_nil, Nat.zero_add, Nat.reduceAdd, reps, List.append_nil, setL, List.set_cons_zero, List.set_cons_succ, Nat.zero_mul, Nat.reduceMul]
  refine WS.po0 (tb := tb) rfl rfl rfl rfl (step_H rfl rfl (evH_store rfl rfl rfl rfl rfl (Nat.zero_le _) rfl (by simp [vcells]) (Nat.le_of_ble_eq_true rfl))) ?_; rw [upd_mem _ rfl]; simp only [vcells, setL, List.set_cons_zero, List.set_cons_succ]
  refine WS.pend rfl ?_
  refine WS.pseq rfl ?_
  refine WS.pregion rfl ?_
  refine WS.po (tb := tb) rfl rfl rfl rfl rfl ?_
  refine WS.pcallM (tb := tb) [1,2] T1 rfl rfl rfl rfl rfl (by (try simp only [mapL, mapV, List.getD_cons_zero, List.getD_cons_succ]); exact rfl) (by simp [okL, okV]; fail_if_success exfalso) rfl (by simp [embP, okL, okV, mapL, mapV, mem_next, mem_get, mem_ro, mapL_cellsR, okL_cellsR]; fail_if_success exfalso) rfl ?_; rintro _ _ ⟨rfl, rfl⟩ -; simp only [plugL, setsL, newsL, isOwn, ownB, over, mapL, mapV, List.getD_cons_zero, List.getD_cons_succ, List.set_cons_zero, List.set_cons_succ, List.length_cons, List.length_nil, Nat.reduceAdd, Nat.reduceLT, Nat.zero_add, if_true, if_false, Nat.reduceSub, reduceIte, List.map_cons, List.map_nil, List.append_nil, List.cons_append, List.nil_append, mapL_cellsR, Nat.lt_irrefl, Nat.not_lt_zero, Nat.zero_lt_succ, Nat.lt_add_one]
  refine WS.po (tb := tb) rfl rfl rfl rfl rfl ?_
  refine WS.pend rfl ?_
  refine WS.pseq rfl ?_
  refine WS.pregion rfl ?_
  refine WS.po (tb := tb) rfl rfl rfl rfl rfl ?_
  refine WS.pend rfl ?_
  refine WS.pseq rfl ?_
  refine WS.pseq rfl ?_
  refine WS.pregion rfl ?_
  refine WS.poP (tb := tb) rfl rfl rfl rfl rfl (by simp only [List.getElem_toArray, List.getElem_cons_zero, List.getElem_cons_succ, Nat.zero_add, Nat.add_zero, Nat.reduceAdd, Nat.reduceMul, Nat.add_assoc, Nat.mul_one, Int.toNat_natCast, Int.reduceToNat, Int.toNat_zero, Nat.zero_mul]; exact rfl) ?_
  refine WS.po (tb := tb) rfl rfl rfl rfl rfl ?_
  refine WS.poB (tb := tb) true rfl rfl rfl rfl rfl rfl ?_
  refine WS.pend rfl ?_
  refine WS.pcondT rfl rfl ?_
  refine WS.pregion rfl ?_
  refine WS.po (tb := tb) rfl rfl rfl rfl rfl ?_
  refine WS.poP (tb := tb) rfl rfl rfl rfl rfl (by simp only [List.getElem_toArray, List.getElem_cons_zero, List.getElem_cons_succ, Nat.zero_add, Nat.add_zero, Nat.reduceAdd, Nat.reduceMul, Nat.add_assoc, Nat.mul_one, Int.toNat_natCast, Int.reduceToNat, Int.toNat_zero, Nat.zero_mul]; exact rfl) ?_
  refine WS.po (tb := tb) rfl rfl rfl rfl rfl ?_
  refine WS.poP (tb := tb) rfl rfl rfl rfl rfl (by simp only [List.getElem_toArray, List.getElem_cons_zero, List.getElem_cons_succ, Nat.zero_add, Nat.add_zero, Nat.reduceAdd, Nat.reduceMul, Nat.add_assoc, Nat.mul_one, Int.toNat_natCast, Int.reduceToNat, Int.toNat_zero, Nat.zero_mul]; exact rfl) ?_
  refine WS.po (tb := tb) rfl rfl rfl rfl rfl ?_
  refine WS.poP (tb := tb) rfl rfl rfl rfl rfl (by simp only [List.getElem_toArray, List.getElem_cons_zero, List.getElem_cons_succ, Nat.zero_add, Nat.add_zero, Nat.reduceAdd, Nat.reduceMul, Nat.add_assoc, Nat.mul_one, Int.toNat_natCast, Int.reduceToNat, Int.toNat_zero, Nat.zero_mul]; exact rfl) ?_
  refine WS.po (tb := tb) rfl rfl rfl rfl rfl ?_
  refine WS.pcallM (tb := tb) [1,2] B rfl rfl rfl rfl rfl (by (try simp only [mapL, mapV, List.getD_cons_zero, List.getD_cons_succ]); exact rfl) (by simp [okL, okV]; fail_if_success exfalso) rfl (by simp [embP, okL, okV, mapL, mapV, mem_next, mem_get, mem_ro, mapL_cellsR, okL_cellsR]; fail_if_success exfalso) rfl ?_; rintro _ _ ⟨rfl, rfl⟩ -; simp only [plugL, setsL, newsL, isOwn, ownB, over, mapL, mapV, List.getD_cons_zero, List.getD_cons_succ, List.set_cons_zero, List.set_cons_succ, List.length_cons, List.length_nil, Nat.reduceAdd, Nat.reduceLT, Nat.zero_add, if_true, if_false, Nat.reduceSub, reduceIte, List.map_cons, List.map_nil, List.append_nil, List.cons_append, List.nil_append, mapL_cellsR, Nat.lt_irrefl, Nat.not_lt_zero, Nat.zero_lt_succ, Nat.lt_add_one]
  refine WS.po (tb := tb) rfl rfl rfl rfl rfl ?_
  refine WS.pend rfl ?_
  refine WS.pseq rfl ?_
  refine WS.pregion rfl ?_
  refine WS.po (tb := tb) rfl rfl rfl rfl rfl ?_
  refine WS.pcallM (tb := tb) [5,2] T2 rfl rfl rfl rfl rfl (by (try simp only [mapL, mapV, List.getD_cons_zero, List.getD_cons_succ]); exact rfl) (by simp [okL, okV]; fail_if_success exfalso) rfl (by simp [embP, okL, okV, mapL, mapV, mem_next, mem_get, mem_ro, mapL_cellsR, okL_cellsR]; fail_if_success exfalso) rfl ?_; rintro _ _ ⟨rfl, rfl⟩ -; simp only [plugL, setsL, newsL, isOwn, ownB, over, mapL, mapV, List.getD_cons_zero, List.getD_cons_succ, List.set_cons_zero, List.set_cons_succ, List.length_cons, List.length_nil, Nat.reduceAdd, Nat.reduceLT, Nat.zero_add, if_true, if_false, Nat.reduceSub, reduceIte, List.map_cons, List.map_nil, List.append_nil, List.cons_append, List.nil_append, mapL_cellsR, Nat.lt_irrefl, Nat.not_lt_zero, Nat.zero_lt_succ, Nat.lt_add_one]
  refine WS.po (tb := tb) rfl rfl rfl rfl rfl ?_
  refine WS.pend rfl ?_
  refine WS.pseq rfl ?_
  refine WS.pseq rfl ?_
  refine WS.pregion rfl ?_
  refine WS.po (tb := tb) rfl rfl rfl rfl rfl ?_
  refine WS.po (tb := tb) rfl rfl rfl rfl rfl ?_
  refine WS.po (tb := tb) rfl rfl rfl rfl rfl ?_
  refine WS.poNF (tb := tb) rfl rfl rfl rfl rfl (by omega) ?_
  refine WS.po (tb := tb) rfl rfl rfl rfl rfl ?_
  refine WS.po (tb := tb) rfl rfl rfl rfl rfl ?_
  refine WS.po (tb := tb) rfl rfl rfl rfl rfl ?_
  refine WS.po (tb := tb) rfl rfl rfl rfl rfl ?_
  refine WS.poNF (tb := tb) rfl rfl rfl rfl rfl (by omega) ?_
  refine WS.po (tb := tb) rfl rfl rfl rfl rfl ?_
  refine WS.po (tb := tb) rfl rfl rfl rfl rfl ?_
  refine WS.po (tb := tb) rfl rfl rfl rfl rfl ?_
  refine WS.pcallM (tb := tb) [5,2] CN rfl rfl rfl rfl rfl (by (try simp only [mapL, mapV, List.getD_cons_zero, List.getD_cons_succ]); exact rfl) (by simp [okL, okV]; fail_if_success exfalso) rfl (by simp [embP, okL, okV, mapL, mapV, mem_next, mem_get, mem_ro, mapL_cellsR, okL_cellsR]; fail_if_success exfalso) rfl ?_; rintro _ _ ⟨rfl, rfl⟩ -; simp only [plugL, setsL, newsL, isOwn, ownB, over, mapL, mapV, List.getD_cons_zero, List.getD_cons_succ, List.set_cons_zero, List.set_cons_succ, List.length_cons, List.length_nil, Nat.reduceAdd, Nat.reduceLT, Nat.zero_add, if_true, if_false, Nat.reduceSub, reduceIte, List.map_cons, List.map_nil, List.append_nil, List.cons_append, List.nil_append, mapL_cellsR, Nat.lt_irrefl, Nat.not_lt_zero, Nat.zero_lt_succ, Nat.lt_add_one]
  refine WS.po (tb := tb) rfl rfl rfl rfl rfl ?_
  refine WS.poDF (tb := tb) rfl rfl rfl rfl rfl (by omega) ?_
  refine WS.po (tb := tb) rfl rfl rfl rfl rfl ?_
  refine WS.pend rfl ?_
  refine WS.pcondF rfl rfl ?_
  refine WS.pskip rfl ?_
  refine WS.pseq rfl ?_
  refine WS.pseq rfl ?_
  refine WS.pregion rfl ?_
  refine WS.po (tb := tb) rfl rfl rfl rfl rfl ?_
  refine WS.pend rfl ?_
  refine WS.pblock rfl ?_
  refine WS.ploopI (σ := Nat) (τ := Unit) (fun k => [(0, .i .i64 cap), (1, .i .i64 m), (2, .sl (some (0,0)) l.length c false), (7, .p (some (2,0))), (9, .i .i64 i), (10, .p (some (3,0))), (11, .sl (some (4,0)) cap cap true), (12, .i .i64 0), (13, .sl (some (5,0)) cap cap true), (14, .i .i64 k)]) (fun _ => [some ⟨cellsR rwAct l, 34, false⟩, some ⟨cellsR (rwI .i64) (putN t a n (fun i : Nat => phys + (i : Int))), 3, true⟩, some ⟨[.i .i64 m, .sl (some (1,0)) cap cap true], 59, true⟩, some ⟨[.i .i64 0, .i .i64 a, .i .i64 n, .i .i64 phys], 34, true⟩, some ⟨cellsR (rwI .i64) t, 3, true⟩, some ⟨cellsR (rwI .i64) (putN t a n (fun i : Nat => phys + (i : Int))), 3, true⟩]) (fun k => k ≤ cap) (fun k => cap - k)
    (fun _ => [(0, .i .i64 cap), (1, .i .i64 m), (2, .sl (some (0,0)) l.length c false), (7, .p (some (2,0))), (9, .i .i64 i), (10, .p (some (3,0))), (12, .i .i64 0)]) (fun _ => [some ⟨cellsR rwAct l, 34, false⟩, some ⟨cellsR (rwI .i64) (putN t a n (fun i : Nat => phys + (i : Int))), 3, true⟩, some ⟨[.i .i64 m, .sl (some (1,0)) cap cap true], 59, true⟩, some ⟨[.i .i64 0, .i .i64 a, .i .i64 n, .i .i64 phys], 34, true⟩, some ⟨cellsR (rwI .i64) t, 3, true⟩, some ⟨cellsR (rwI .i64) (putN t a n (fun i : Nat => phys + (i : Int))), 3, true⟩]) (fun _ => True) 2 [0,5,2,3,4,6] 0 rfl (Nat.zero_le _) ⟨rfl, rfl, (by simp [viewP, okL, okV, mapL, mapV, mem_get, mapL_cellsR, okL_cellsR]), (by first | exact rfl | exact own2_dist rfl rfl), (by simp only [slotsP, okV, okL, mapV, mapL, and_true, true_and, List.length_cons, List.length_nil, List.length_append, List.length_map, Nat.reduceAdd, Nat.reduceLT]; repeat' (first | exact rfl | refine ⟨?_, ?_⟩ | exact lk_m rfl (hmp _ rfl) | exact hok _ (Nat.le_of_ble_eq_true rfl) | exact lk_i rfl (by omega) | exact lk_sl rfl (by omega) (by omega) (by omega) | decide | omega))⟩ rfl ?_ ?_
  · intro k hk
    by_cases h : k < cap
    · obtain ⟨w, hw⟩ : ∃ w, t[k]? = some w := ⟨_, List.getElem?_eq_getElem (by omega)⟩
      by_cases h7 : a ≤ k ∧ k < a + n
      · have hu : ((putN t a n (fun i : Nat => phys + (i : Int))))[k]? = some (phys + ((k - a : Nat) : Int)) := by rw [putN, mkl_get (by omega), if_pos h7]
        have eK : ((k - a : Nat) : Int) = (k : Int) - a := by omega
        refine WS.pseq rfl ?_
        refine WS.pseq rfl ?_
        refine WS.pregion rfl ?_
        refine WS.po (tb := tb) rfl rfl rfl rfl rfl ?_
        refine WS.po (tb := tb) rfl rfl rfl rfl rfl ?_
        refine WS.poDT (tb := tb) rfl rfl rfl rfl rfl (by omega) ?_
        refine WS.pend rfl ?_
        refine WS.pcondT rfl rfl ?_
        refine WS.pskip rfl ?_
        refine WS.pseq rfl ?_
        refine WS.pblock rfl ?_
        refine WS.pseq rfl ?_
        refine WS.pregion rfl ?_
        refine WS.po (tb := tb) rfl rfl rfl rfl rfl ?_
        refine WS.poB (tb := tb) true rfl rfl rfl rfl rfl rfl ?_
        refine WS.po (tb := tb) rfl rfl rfl rfl rfl ?_
        refine WS.po (tb := tb) rfl rfl rfl rfl rfl ?_
        refine WS.poP (tb := tb) rfl rfl rfl rfl rfl (by simp only [List.getElem_toArray, List.getElem_cons_zero, List.getElem_cons_succ, Nat.zero_add, Nat.add_zero, Nat.reduceAdd, Nat.reduceMul, Nat.add_assoc, Nat.mul_one, Int.toNat_natCast, Int.reduceToNat, Int.toNat_zero, Nat.zero_mul]; exact rfl) ?_
        refine WS.po (tb := tb) rfl rfl rfl rfl rfl ?_
        refine WS.poDT (tb := tb) rfl rfl rfl rfl rfl (by omega) ?_
        refine WS.po (tb := tb) rfl rfl rfl rfl rfl ?_
        refine WS.po (tb := tb) rfl rfl rfl rfl rfl ?_
        refine WS.po (tb := tb) rfl rfl rfl rfl rfl ?_
        refine WS.poP (tb := tb) rfl rfl rfl rfl rfl (by simp only [List.getElem_toArray, List.getElem_cons_zero, List.getElem_cons_succ, Nat.zero_add, Nat.add_zero, Nat.reduceAdd, Nat.reduceMul, Nat.add_assoc, Nat.mul_one, Int.toNat_natCast, Int.reduceToNat, Int.toNat_zero, Nat.zero_mul]; exact rfl) ?_
        refine WS.po (tb := tb) rfl rfl rfl rfl rfl ?_
        refine WS.poW (tb := tb) rfl rfl rfl rfl rfl (by simp only [lo]; omega) (by simp only [Am.hi]; omega) ?_
        refine WS.poP (tb := tb) rfl rfl rfl rfl rfl (by simp only [List.getElem_toArray, List.getElem_cons_zero, List.getElem_cons_succ, Nat.zero_add, Nat.add_zero, Nat.reduceAdd, Nat.reduceMul, Nat.add_assoc, Nat.mul_one, Int.toNat_natCast, Int.reduceToNat, Int.toNat_zero, Nat.zero_mul]; exact rfl) ?_
        refine WS.po (tb := tb) rfl rfl rfl rfl rfl ?_
        refine WS.poDT (tb := tb) rfl rfl rfl rfl rfl (by omega) ?_
        refine WS.po (tb := tb) rfl rfl rfl rfl rfl ?_
        refine WS.po (tb := tb) rfl rfl rfl rfl rfl ?_
        refine WS.pend rfl ?_
        refine WS.pseq rfl ?_
        refine WS.pdraw (tb := tb) (by kernel_rfl) rfl (by kernel_rfl) (by kernel_rfl) ?_
        refine WD.p (tb := tb) rfl rfl rfl rfl rfl ?_
        refine WD.pB (tb := tb) false rfl rfl rfl rfl rfl rfl ?_
        refine WD.p (tb := tb) rfl rfl rfl rfl rfl ?_
        refine WD.no rfl rfl rfl rfl ?_
        refine WD.no rfl rfl rfl rfl ?_
        refine WD.no rfl rfl rfl rfl ?_
        refine WD.no1 rfl rfl rfl rfl ?_
        refine WD.no rfl rfl rfl rfl ?_
        refine WD.no rfl rfl rfl rfl ?_
        refine WD.no rfl rfl rfl rfl ?_
        refine WD.no1 rfl rfl rfl rfl ?_
        refine WD.no rfl rfl rfl rfl ?_
        refine WD.p (tb := tb) rfl rfl rfl rfl rfl ?_
        refine WD.p (tb := tb) rfl rfl rfl rfl rfl ?_
        refine WD.p (tb := tb) rfl rfl rfl rfl rfl ?_
        refine WD.p (tb := tb) rfl rfl rfl rfl rfl ?_
        refine WD.pP (tb := tb) rfl rfl rfl rfl rfl (by simp only [List.getElem_toArray, List.getElem_cons_zero, List.getElem_cons_succ, Nat.zero_add, Nat.add_zero, Nat.reduceAdd, Nat.reduceMul, Nat.add_assoc, Nat.mul_one, Int.toNat_natCast, Int.reduceToNat, Int.toNat_zero, Nat.zero_mul]; exact rfl) ?_
        refine WD.r (tb := tb) rfl rfl rfl rfl rfl ?_
        refine WD.pB (tb := tb) false rfl rfl rfl rfl rfl rfl ?_
        refine WD.p (tb := tb) rfl rfl rfl rfl rfl ?_
        refine WD.p (tb := tb) rfl rfl rfl rfl rfl ?_
        refine WD.no rfl rfl rfl rfl ?_
        refine WD.no rfl rfl rfl rfl ?_
        refine WD.no rfl rfl rfl rfl ?_
        refine WD.no1 rfl rfl rfl rfl ?_
        refine WD.no rfl rfl rfl rfl ?_
        refine WD.p (tb := tb) rfl rfl rfl rfl rfl ?_
        refine WD.p (tb := tb) rfl rfl rfl rfl rfl ?_
        refine WD.p (tb := tb) rfl rfl rfl rfl rfl ?_
        refine WD.p (tb := tb) rfl rfl rfl rfl rfl ?_
        refine WD.p (tb := tb) rfl rfl rfl rfl rfl ?_
        refine WD.pP (tb := tb) rfl rfl rfl rfl rfl (by simp only [List.getElem_toArray, List.getElem_cons_zero, List.getElem_cons_succ, Nat.zero_add, Nat.add_zero, Nat.reduceAdd, Nat.reduceMul, Nat.add_assoc, Nat.mul_one, Int.toNat_natCast, Int.reduceToNat, Int.toNat_zero, Nat.zero_mul]; exact rfl) ?_
        refine WD.r (tb := tb) rfl rfl rfl rfl rfl ?_
        refine WD.pB (tb := tb) true rfl rfl rfl rfl rfl rfl ?_
        refine WD.p (tb := tb) rfl rfl rfl rfl rfl ?_
        refine WD.p (tb := tb) rfl rfl rfl rfl rfl ?_
        refine WD.p (tb := tb) rfl rfl rfl rfl rfl ?_
        refine WD.p (tb := tb) rfl rfl rfl rfl rfl ?_
        refine WD.pP (tb := tb) rfl rfl rfl rfl (evP_index rfl rfl rfl rfl rfl rfl (by omega)) (by simp only [Nat.zero_add, Nat.add_zero, Nat.reduceAdd, Nat.reduceMul, Nat.add_assoc, Nat.mul_one]; exact rfl) ?_
        refine WD.r (tb := tb) rfl rfl rfl rfl (evQ_R rfl (evR_load rfl rfl rfl rfl (cellsI_get hu))) ?_
        refine WD.pP (tb := tb) rfl rfl rfl rfl rfl (by simp only [List.getElem_toArray, List.getElem_cons_zero, List.getElem_cons_succ, Nat.zero_add, Nat.add_zero, Nat.reduceAdd, Nat.reduceMul, Nat.add_assoc, Nat.mul_one, Int.toNat_natCast, Int.reduceToNat, Int.toNat_zero, Nat.zero_mul]; exact rfl) ?_
        refine WD.r (tb := tb) rfl rfl rfl rfl rfl ?_
        refine WD.p (tb := tb) rfl rfl rfl rfl rfl ?_
        refine WD.pW (tb := tb) rfl rfl rfl rfl rfl (by simp only [lo]; omega) (by simp only [Am.hi]; omega) ?_
        refine WD.pP (tb := tb) rfl rfl rfl rfl rfl (by simp only [List.getElem_toArray, List.getElem_cons_zero, List.getElem_cons_succ, Nat.zero_add, Nat.add_zero, Nat.reduceAdd, Nat.reduceMul, Nat.add_assoc, Nat.mul_one, Int.toNat_natCast, Int.reduceToNat, Int.toNat_zero, Nat.zero_mul]; exact rfl) ?_
        refine WD.r (tb := tb) rfl rfl rfl rfl rfl ?_
        refine WD.pW (tb := tb) rfl rfl rfl rfl rfl (by simp only [lo]; omega) (by simp only [Am.hi]; omega) ?_
        refine WD.pNF (tb := tb) rfl rfl rfl rfl rfl (by omega) ?_
        refine WD.p (tb := tb) rfl rfl rfl rfl rfl ?_
        refine WD.p (tb := tb) rfl rfl rfl rfl rfl ?_
        refine WD.fin rfl ?_
        refine WS.pcondF rfl rfl ?_
        refine WS.pskip rfl ?_
        refine WS.pregion rfl ?_
        refine WS.po (tb := tb) rfl rfl rfl rfl rfl ?_
        refine WS.poW (tb := tb) rfl rfl rfl rfl rfl (by simp only [lo]; omega) (by simp only [Am.hi]; omega) ?_
        refine WS.po (tb := tb) rfl rfl rfl rfl rfl ?_
        refine WS.pend rfl ?_
        refine WS.nil ?_
        exact ⟨k + 1, by omega, by omega, (SeenBy.seen (v := [0,1,2,3,4,5]) ⟨rfl, rfl, (by simp [viewP, okL, okV, mapL, mapV, mem_get, mapL_cellsR, okL_cellsR]), (by first | exact rfl | exact own2_dist rfl rfl), (by simp only [slotsP, okV, okL, mapV, mapL, and_true, true_and, List.length_cons, List.length_nil, List.length_append, List.length_map, Nat.reduceAdd, Nat.reduceLT]; repeat' (first | exact rfl | refine ⟨?_, ?_⟩ | exact lk_m rfl (hmp _ rfl) | exact hok _ (Nat.le_of_ble_eq_true rfl) | exact lk_i rfl (by omega) | exact lk_sl rfl (by omega) (by omega) (by omega) | decide | omega))⟩)⟩
      · have hu : ((putN t a n (fun i : Nat => phys + (i : Int))))[k]? = some w := by rw [putN, mkl_get (by omega), if_neg h7, getD_of hw]
        by_cases h8 : k < a
        · refine WS.pseq rfl ?_
          refine WS.pseq rfl ?_
          refine WS.pregion rfl ?_
          refine WS.po (tb := tb) rfl rfl rfl rfl rfl ?_
          refine WS.po (tb := tb) rfl rfl rfl rfl rfl ?_
          refine WS.poDT (tb := tb) rfl rfl rfl rfl rfl (by omega) ?_
          refine WS.pend rfl ?_
          refine WS.pcondT rfl rfl ?_
          refine WS.pskip rfl ?_
          refine WS.pseq rfl ?_
          refine WS.pblock rfl ?_
          refine WS.pseq rfl ?_
          refine WS.pregion rfl ?_
          refine WS.po (tb := tb) rfl rfl rfl rfl rfl ?_
          refine WS.poB (tb := tb) true rfl rfl rfl rfl rfl rfl ?_
          refine WS.po (tb := tb) rfl rfl rfl rfl rfl ?_
          refine WS.po (tb := tb) rfl rfl rfl rfl rfl ?_
          refine WS.poP (tb := tb) rfl rfl rfl rfl rfl (by simp only [List.getElem_toArray, List.getElem_cons_zero, List.getElem_cons_succ, Nat.zero_add, Nat.add_zero, Nat.reduceAdd, Nat.reduceMul, Nat.add_assoc, Nat.mul_one, Int.toNat_natCast, Int.reduceToNat, Int.toNat_zero, Nat.zero_mul]; exact rfl) ?_
          refine WS.po (tb := tb) rfl rfl rfl rfl rfl ?_
          refine WS.poDF (tb := tb) rfl rfl rfl rfl rfl (by omega) ?_
          refine WS.po (tb := tb) rfl rfl rfl rfl rfl ?_
          refine WS.po (tb := tb) rfl rfl rfl rfl rfl ?_
          refine WS.pono rfl rfl rfl rfl ?_
          refine WS.pono rfl rfl rfl rfl ?_
          refine WS.pono rfl rfl rfl rfl ?_
          refine WS.pono rfl rfl rfl rfl ?_
          refine WS.pono rfl rfl rfl rfl ?_
          refine WS.pono rfl rfl rfl rfl ?_
          refine WS.pono rfl rfl rfl rfl ?_
          refine WS.po (tb := tb) rfl rfl rfl rfl rfl ?_
          refine WS.po (tb := tb) rfl rfl rfl rfl rfl ?_
          refine WS.pend rfl ?_
          refine WS.pseq rfl ?_
          refine WS.pdraw (tb := tb) (by kernel_rfl) rfl (by kernel_rfl) (by kernel_rfl) ?_
          refine WD.p (tb := tb) rfl rfl rfl rfl rfl ?_
          refine WD.pB (tb := tb) true rfl rfl rfl rfl rfl rfl ?_
          refine WD.p (tb := tb) rfl rfl rfl rfl rfl ?_
          refine WD.p (tb := tb) rfl rfl rfl rfl rfl ?_
          refine WD.p (tb := tb) rfl rfl rfl rfl rfl ?_
          refine WD.pP (tb := tb) rfl rfl rfl rfl (evP_index rfl rfl rfl rfl rfl rfl (by omega)) (by simp only [Nat.zero_add, Nat.add_zero, Nat.reduceAdd, Nat.reduceMul, Nat.add_assoc, Nat.mul_one]; exact rfl) ?_
          refine WD.r (tb := tb) rfl rfl rfl rfl (evQ_R rfl (evR_load rfl rfl rfl rfl (cellsI_get hu))) ?_
          refine WD.p (tb := tb) rfl rfl rfl rfl rfl ?_
          refine WD.p (tb := tb) rfl rfl rfl rfl rfl ?_
          refine WD.pP (tb := tb) rfl rfl rfl rfl (evP_index rfl rfl rfl rfl rfl rfl (by omega)) (by simp only [Nat.zero_add, Nat.add_zero, Nat.reduceAdd, Nat.reduceMul, Nat.add_assoc, Nat.mul_one]; exact rfl) ?_
          refine WD.r (tb := tb) rfl rfl rfl rfl (evQ_R rfl (evR_load rfl rfl rfl rfl (cellsI_get hw))) ?_
          refine WD.pNF (tb := tb) rfl rfl rfl rfl rfl (by omega) ?_
          refine WD.p (tb := tb) rfl rfl rfl rfl rfl ?_
          refine WD.p (tb := tb) rfl rfl rfl rfl rfl ?_
          refine WD.p (tb := tb) rfl rfl rfl rfl rfl ?_
          refine WD.p (tb := tb) rfl rfl rfl rfl rfl ?_
          refine WD.no rfl rfl rfl rfl ?_
          refine WD.no1 rfl rfl rfl rfl ?_
          refine WD.no rfl rfl rfl rfl ?_
          refine WD.p (tb := tb) rfl rfl rfl rfl rfl ?_
          refine WD.p (tb := tb) rfl rfl rfl rfl rfl ?_
          refine WD.no rfl rfl rfl rfl ?_
          refine WD.no rfl rfl rfl rfl ?_
          refine WD.no rfl rfl rfl rfl ?_
          refine WD.no1 rfl rfl rfl rfl ?_
          refine WD.no rfl rfl rfl rfl ?_
          refine WD.p (tb := tb) rfl rfl rfl rfl rfl ?_
          refine WD.p (tb := tb) rfl rfl rfl rfl rfl ?_
          refine WD.p (tb := tb) rfl rfl rfl rfl rfl ?_
          refine WD.p (tb := tb) rfl rfl rfl rfl rfl ?_
          refine WD.p (tb := tb) rfl rfl rfl rfl rfl ?_
          refine WD.no rfl rfl rfl rfl ?_
          refine WD.no1 rfl rfl rfl rfl ?_
          refine WD.no rfl rfl rfl rfl ?_
          refine WD.p (tb := tb) rfl rfl rfl rfl rfl ?_
          refine WD.p (tb := tb) rfl rfl rfl rfl rfl ?_
          refine WD.no rfl rfl rfl rfl ?_
          refine WD.no rfl rfl rfl rfl ?_
          refine WD.no rfl rfl rfl rfl ?_
          refine WD.no1 rfl rfl rfl rfl ?_
          refine WD.no rfl rfl rfl rfl ?_
          refine WD.no1 rfl rfl rfl rfl ?_
          refine WD.no rfl rfl rfl rfl ?_
          refine WD.no rfl rfl rfl rfl ?_
          refine WD.no rfl rfl rfl rfl ?_
          refine WD.no1 rfl rfl rfl rfl ?_
          refine WD.no rfl rfl rfl rfl ?_
          refine WD.no rfl rfl rfl rfl ?_
          refine WD.p (tb := tb) rfl rfl rfl rfl rfl ?_
          refine WD.p (tb := tb) rfl rfl rfl rfl rfl ?_
          refine WD.fin rfl ?_
          refine WS.pcondF rfl rfl ?_
          refine WS.pskip rfl ?_
          refine WS.pregion rfl ?_
          refine WS.po (tb := tb) rfl rfl rfl rfl rfl ?_
          refine WS.poW (tb := tb) rfl rfl rfl rfl rfl (by simp only [lo]; omega) (by simp only [Am.hi]; omega) ?_
          refine WS.po (tb := tb) rfl rfl rfl rfl rfl ?_
          refine WS.pend rfl ?_
          refine WS.nil ?_
          exact ⟨k + 1, by omega, by omega, (SeenBy.seen (v := [0,1,2,3,4,5]) ⟨rfl, rfl, (by simp [viewP, okL, okV, mapL, mapV, mem_get, mapL_cellsR, okL_cellsR]), (by first | exact rfl | exact own2_dist rfl rfl), (by simp only [slotsP, okV, okL, mapV, mapL, and_true, true_and, List.length_cons, List.length_nil, List.length_append, List.length_map, Nat.reduceAdd, Nat.reduceLT]; repeat' (first | exact rfl | refine ⟨?_, ?_⟩ | exact lk_m rfl (hmp _ rfl) | exact hok _ (Nat.le_of_ble_eq_true rfl) | exact lk_i rfl (by omega) | exact lk_sl rfl (by omega) (by omega) (by omega) | decide | omega))⟩)⟩
        · refine WS.pseq rfl ?_
          refine WS.pseq rfl ?_
          refine WS.pregion rfl ?_
          refine WS.po (tb := tb) rfl rfl rfl rfl rfl ?_
          refine WS.po (tb := tb) rfl rfl rfl rfl rfl ?_
          refine WS.poDT (tb := tb) rfl rfl rfl rfl rfl (by omega) ?_
          refine WS.pend rfl ?_
          refine WS.pcondT rfl rfl ?_
          refine WS.pskip rfl ?_
          refine WS.pseq rfl ?_
          refine WS.pblock rfl ?_
          refine WS.pseq rfl ?_
          refine WS.pregion rfl ?_
          refine WS.po (tb := tb) rfl rfl rfl rfl rfl ?_
          refine WS.poB (tb := tb) true rfl rfl rfl rfl rfl rfl ?_
          refine WS.po (tb := tb) rfl rfl rfl rfl rfl ?_
          refine WS.po (tb := tb) rfl rfl rfl rfl rfl ?_
          refine WS.poP (tb := tb) rfl rfl rfl rfl rfl (by simp only [List.getElem_toArray, List.getElem_cons_zero, List.getElem_cons_succ, Nat.zero_add, Nat.add_zero, Nat.reduceAdd, Nat.reduceMul, Nat.add_assoc, Nat.mul_one, Int.toNat_natCast, Int.reduceToNat, Int.toNat_zero, Nat.zero_mul]; exact rfl) ?_
          refine WS.po (tb := tb) rfl rfl rfl rfl rfl ?_
          refine WS.poDT (tb := tb) rfl rfl rfl rfl rfl (by omega) ?_
          refine WS.po (tb := tb) rfl rfl rfl rfl rfl ?_
          refine WS.po (tb := tb) rfl rfl rfl rfl rfl ?_
          refine WS.po (tb := tb) rfl rfl rfl rfl rfl ?_
          refine WS.poP (tb := tb) rfl rfl rfl rfl rfl (by simp only [List.getElem_toArray, List.getElem_cons_zero, List.getElem_cons_succ, Nat.zero_add, Nat.add_zero, Nat.reduceAdd, Nat.reduceMul, Nat.add_assoc, Nat.mul_one, Int.toNat_natCast, Int.reduceToNat, Int.toNat_zero, Nat.zero_mul]; exact rfl) ?_
          refine WS.po (tb := tb) rfl rfl rfl rfl rfl ?_
          refine WS.poW (tb := tb) rfl rfl rfl rfl rfl (by simp only [lo]; omega) (by simp only [Am.hi]; omega) ?_
          refine WS.poP (tb := tb) rfl rfl rfl rfl rfl (by simp only [List.getElem_toArray, List.getElem_cons_zero, List.getElem_cons_succ, Nat.zero_add, Nat.add_zero, Nat.reduceAdd, Nat.reduceMul, Nat.add_assoc, Nat.mul_one, Int.toNat_natCast, Int.reduceToNat, Int.toNat_zero, Nat.zero_mul]; exact rfl) ?_
          refine WS.po (tb := tb) rfl rfl rfl rfl rfl ?_
          refine WS.poDF (tb := tb) rfl rfl rfl rfl rfl (by omega) ?_
          refine WS.po (tb := tb) rfl rfl rfl rfl rfl ?_
          refine WS.po (tb := tb) rfl rfl rfl rfl rfl ?_
          refine WS.pend rfl ?_
          refine WS.pseq rfl ?_
          refine WS.pdraw (tb := tb) (by kernel_rfl) rfl (by kernel_rfl) (by kernel_rfl) ?_
          refine WD.p (tb := tb) rfl rfl rfl rfl rfl ?_
          refine WD.pB (tb := tb) true rfl rfl rfl rfl rfl rfl ?_
          refine WD.p (tb := tb) rfl rfl rfl rfl rfl ?_
          refine WD.p (tb := tb) rfl rfl rfl rfl rfl ?_
          refine WD.p (tb := tb) rfl rfl rfl rfl rfl ?_
          refine WD.pP (tb := tb) rfl rfl rfl rfl (evP_index rfl rfl rfl rfl rfl rfl (by omega)) (by simp only [Nat.zero_add, Nat.add_zero, Nat.reduceAdd, Nat.reduceMul, Nat.add_assoc, Nat.mul_one]; exact rfl) ?_
          refine WD.r (tb := tb) rfl rfl rfl rfl (evQ_R rfl (evR_load rfl rfl rfl rfl (cellsI_get hu))) ?_
          refine WD.p (tb := tb) rfl rfl rfl rfl rfl ?_
          refine WD.p (tb := tb) rfl rfl rfl rfl rfl ?_
          refine WD.pP (tb := tb) rfl rfl rfl rfl (evP_index rfl rfl rfl rfl rfl rfl (by omega)) (by simp only [Nat.zero_add, Nat.add_zero, Nat.reduceAdd, Nat.reduceMul, Nat.add_assoc, Nat.mul_one]; exact rfl) ?_
          refine WD.r (tb := tb) rfl rfl rfl rfl (evQ_R rfl (evR_load rfl rfl rfl rfl (cellsI_get hw))) ?_
          refine WD.pNF (tb := tb) rfl rfl rfl rfl rfl (by omega) ?_
          refine WD.p (tb := tb) rfl rfl rfl rfl rfl ?_
          refine WD.p (tb := tb) rfl rfl rfl rfl rfl ?_
          refine WD.p (tb := tb) rfl rfl rfl rfl rfl ?_
          refine WD.p (tb := tb) rfl rfl rfl rfl rfl ?_
          refine WD.no rfl rfl rfl rfl ?_
          refine WD.no1 rfl rfl rfl rfl ?_
          refine WD.no rfl rfl rfl rfl ?_
          refine WD.p (tb := tb) rfl rfl rfl rfl rfl ?_
          refine WD.p (tb := tb) rfl rfl rfl rfl rfl ?_
          refine WD.no rfl rfl rfl rfl ?_
          refine WD.no rfl rfl rfl rfl ?_
          refine WD.no rfl rfl rfl rfl ?_
          refine WD.no1 rfl rfl rfl rfl ?_
          refine WD.no rfl rfl rfl rfl ?_
          refine WD.p (tb := tb) rfl rfl rfl rfl rfl ?_
          refine WD.p (tb := tb) rfl rfl rfl rfl rfl ?_
          refine WD.p (tb := tb) rfl rfl rfl rfl rfl ?_
          refine WD.p (tb := tb) rfl rfl rfl rfl rfl ?_
          refine WD.p (tb := tb) rfl rfl rfl rfl rfl ?_
          refine WD.no rfl rfl rfl rfl ?_
          refine WD.no1 rfl rfl rfl rfl ?_
          refine WD.no rfl rfl rfl rfl ?_
          refine WD.p (tb := tb) rfl rfl rfl rfl rfl ?_
          refine WD.p (tb := tb) rfl rfl rfl rfl rfl ?_
          refine WD.no rfl rfl rfl rfl ?_
          refine WD.no rfl rfl rfl rfl ?_
          refine WD.no rfl rfl rfl rfl ?_
          refine WD.no1 rfl rfl rfl rfl ?_
          refine WD.no rfl rfl rfl rfl ?_
          refine WD.no1 rfl rfl rfl rfl ?_
          refine WD.no rfl rfl rfl rfl ?_
          refine WD.no rfl rfl rfl rfl ?_
          refine WD.no rfl rfl rfl rfl ?_
          refine WD.no1 rfl rfl rfl rfl ?_
          refine WD.no rfl rfl rfl rfl ?_
          refine WD.no rfl rfl rfl rfl ?_
          refine WD.p (tb := tb) rfl rfl rfl rfl rfl ?_
          refine WD.p (tb := tb) rfl rfl rfl rfl rfl ?_
          refine WD.fin rfl ?_
          refine WS.pcondF rfl rfl ?_
          refine WS.pskip rfl ?_
          refine WS.pregion rfl ?_
          refine WS.po (tb := tb) rfl rfl rfl rfl rfl ?_
          refine WS.poW (tb := tb) rfl rfl rfl rfl rfl (by simp only [lo]; omega) (by simp only [Am.hi]; omega) ?_
          refine WS.po (tb := tb) rfl rfl rfl rfl rfl ?_
          refine WS.pend rfl ?_
          refine WS.nil ?_
          exact ⟨k + 1, by omega, by omega, (SeenBy.seen (v := [0,1,2,3,4,5]) ⟨rfl, rfl, (by simp [viewP, okL, okV, mapL, mapV, mem_get, mapL_cellsR, okL_cellsR]), (by first | exact rfl | exact own2_dist rfl rfl), (by simp only [slotsP, okV, okL, mapV, mapL, and_true, true_and, List.length_cons, List.length_nil, List.length_append, List.length_map, Nat.reduceAdd, Nat.reduceLT]; repeat' (first | exact rfl | refine ⟨?_, ?_⟩ | exact lk_m rfl (hmp _ rfl) | exact hok _ (Nat.le_of_ble_eq_true rfl) | exact lk_i rfl (by omega) | exact lk_sl rfl (by omega) (by omega) (by omega) | decide | omega))⟩)⟩
    · refine WS.pseq rfl ?_
      refine WS.pseq rfl ?_
      refine WS.pregion rfl ?_
      refine WS.po (tb := tb) rfl rfl rfl rfl rfl ?_
      refine WS.po (tb := tb) rfl rfl rfl rfl rfl ?_
      refine WS.poDF (tb := tb) rfl rfl rfl rfl rfl (by omega) ?_
      refine WS.pend rfl ?_
      refine WS.pcondF rfl rfl ?_
      refine WS.pout rfl rfl ?_
      exact ⟨rfl, (), trivial, (SeenBy.seen (v := [0,1,2,3,4,5]) ⟨rfl, rfl, (by simp [viewP, okL, okV, mapL, mapV, mem_get, mapL_cellsR, okL_cellsR]), (by first | exact rfl | exact own2_dist rfl rfl), (by simp only [slotsP, okV, okL, mapV, mapL, and_true, true_and, List.length_cons, List.length_nil, List.length_append, List.length_map, Nat.reduceAdd, Nat.reduceLT]; repeat' (first | exact rfl | refine ⟨?_, ?_⟩ | exact lk_m rfl (hmp _ rfl) | exact hok _ (Nat.le_of_ble_eq_true rfl) | exact lk_i rfl (by omega) | exact lk_sl rfl (by omega) (by omega) (by omega) | decide | omega))⟩)⟩
  · rintro _ -
    have RR := refRight_walk cap a n (by omega) (by omega)
    rw [rgt, decide_eq_true (by omega)] at RR
    refine WS.pseq rfl ?_
    refine WS.pregion rfl ?_
    refine WS.po (tb := tb) rfl rfl rfl rfl rfl ?_
    refine WS.poB (tb := tb) true rfl rfl rfl rfl rfl rfl ?_
    refine WS.po (tb := tb) rfl rfl rfl rfl rfl ?_
    refine WS.po (tb := tb) rfl rfl rfl rfl rfl ?_
    refine WS.poP (tb := tb) rfl rfl rfl rfl rfl (by simp only [List.getElem_toArray, List.getElem_cons_zero, List.getElem_cons_succ, Nat.zero_add, Nat.add_zero, Nat.reduceAdd, Nat.reduceMul, Nat.add_assoc, Nat.mul_one, Int.toNat_natCast, Int.reduceToNat, Int.toNat_zero, Nat.zero_mul]; exact rfl) ?_
    refine WS.po (tb := tb) rfl rfl rfl rfl rfl ?_
    refine WS.poP (tb := tb) rfl rfl rfl rfl rfl (by simp only [List.getElem_toArray, List.getElem_cons_zero, List.getElem_cons_succ, Nat.zero_add, Nat.add_zero, Nat.reduceAdd, Nat.reduceMul, Nat.add_assoc, Nat.mul_one, Int.toNat_natCast, Int.reduceToNat, Int.toNat_zero, Nat.zero_mul]; exact rfl) ?_
    refine WS.po (tb := tb) rfl rfl rfl rfl rfl ?_
    refine WS.pcallM (tb := tb) [] RR rfl rfl rfl rfl rfl (by (try simp only [mapL, mapV, List.getD_cons_zero, List.getD_cons_succ]); exact rfl) (by simp [okL, okV]; fail_if_success exfalso) rfl (by simp [embP, okL, okV, mapL, mapV, mem_next, mem_get, mem_ro, mapL_cellsR, okL_cellsR]; fail_if_success exfalso) rfl ?_; rintro _ _ ⟨rfl, rfl⟩ -; simp only [plugL, setsL, newsL, isOwn, ownB, over, mapL, mapV, List.getD_cons_zero, List.getD_cons_succ, List.set_cons_zero, List.set_cons_succ, List.length_cons, List.length_nil, Nat.reduceAdd, Nat.reduceLT, Nat.zero_add, if_true, if_false, Nat.reduceSub, reduceIte, List.map_cons, List.map_nil, List.append_nil, List.cons_append, List.nil_append, mapL_cellsR, Nat.lt_irrefl, Nat.not_lt_zero, Nat.zero_lt_succ, Nat.lt_add_one]
    refine WS.poB (tb := tb) false rfl rfl rfl rfl rfl rfl ?_
    refine WS.po (tb := tb) rfl rfl rfl rfl rfl ?_
    refine WS.pend rfl ?_
    refine WS.pcondF rfl rfl ?_
    refine WS.pskip rfl ?_
    refine WS.pregion rfl ?_
    refine WS.po (tb := tb) rfl rfl rfl rfl rfl ?_
    refine WS.poW (tb := tb) rfl rfl rfl rfl rfl (by simp only [lo]; omega) (by simp only [Am.hi]; omega) ?_
    refine WS.po (tb := tb) rfl rfl rfl rfl rfl ?_
    refine WS.pend rfl ?_
    refine WS.nil ?_
    exact ⟨⟨i + 1, (putN t a n (fun i : Nat => phys + (i : Int))), true⟩, ⟨by dsimp only; omega, hlenu, hbu, by dsimp only; omega⟩, by dsimp only; omega, (SeenBy.seen (v := [0,1,2]) ⟨rfl, rfl, (by simp [viewP, okL, okV, mapL, mapV, mem_get, mapL_cellsR, okL_cellsR, SSk, MMk]), (by first | exact rfl | exact own2_dist rfl rfl), (by simp only [slotsP, okV, okL, mapV, mapL, and_true, true_and, List.length_cons, List.length_nil, List.length_append, List.length_map, Nat.reduceAdd, Nat.reduceLT, SSk, MMk]; repeat' (first | exact rfl | refine ⟨?_, ?_⟩ | exact lk_m rfl (hmp _ rfl) | exact hok _ (Nat.le_of_ble_eq_true rfl) | exact lk_i rfl (by omega) | exact lk_sl rfl (by omega) (by omega) (by omega) | decide | omega))⟩)⟩

theorem kp_cfull (cap m : Nat) (l : List Act) (c i : Nat) (t : List Int) (q : Bool) (op : Int) (hop : op ≠ 0) (a n : Nat) (phys : Int) (h0 : 1 ≤ n) (h1 : a + n ≤ cap) (hf : (m : Int) < (runsN (putN t a n (fun _ : Nat => -1)) cap).length) (H : InvK cap m l.length ⟨i, t, q⟩) (hl : l.length ≤ 60) (hc0 : 1 ≤ cap) (hc : cap ≤ 64) (hm : m ≤ 512) (hx : l[i]? = some ⟨op, a, n, phys⟩) :
    WS Try.prog (frameN Try.f5 3) 1 [.c (k1 (k1 (k2 (k1 (k2 (k2 (k2 (k2 (kb Try.f5)))))))))] (slt (SSk cap m (some (0,0)) l.length c ⟨i, t, q⟩)) (mem 0 (MMk l cap m ⟨i, t, q⟩)) (PostK cap m l c ⟨i, t, q⟩) := by
  have hi : i < l.length := (List.getElem?_eq_some_iff.1 hx).1
  have hlen : t.length = cap := H.len
  have hb : Bnd t := H.bnd
  have hcnt : (runsN t cap).length ≤ m := H.cnt
  have T1 := table_walk t m q (by omega) (by omega)
  have CN := cnt_walk t m q (by omega) hb
  simp only [mapM, hlen] at CN
  have B := clear_walk_full t m q a n h0 (by omega) (by omega) hb (by rw [hlen]; exact hf)
  simp only [mapM, hlen] at B

  simp only [mapM, hlen, List.cons_append, List.nil_append] at T1
  simp only [SSk, MMk]
  refine WS.pseq rfl ?_
  refine WS.pseq rfl ?_
  refine WS.pregion rfl ?_
  refine WS.po (tb := tb) rfl rfl rfl rfl rfl ?_
  refine WS.po (tb := tb) rfl rfl rfl rfl rfl ?_
  refine WS.po (tb := tb) rfl rfl rfl rfl rfl ?_
  refine WS.poDT (tb := tb) rfl rfl rfl rfl rfl (by omega) ?_
  refine WS.pend rfl ?_
  refine WS.pcondT rfl rfl ?_
  refine WS.pskip rfl ?_
  refine WS.pseq rfl ?_
  refine WS.pblock rfl ?_
  refine WS.pseq rfl ?_
  refine WS.pregion rfl ?_
  refine WS.po (tb := tb) rfl rfl rfl rfl rfl ?_
  refine WS.po (tb := tb) rfl rfl rfl rfl rfl ?_
  refine WS.poP (tb := tb) rfl rfl rfl rfl (step_P (evP_index rfl rfl rfl rfl rfl rfl (by omega))) (by simp only [Nat.zero_add, Nat.add_zero, Nat.reduceAdd, Nat.reduceMul, Nat.add_assoc, Nat.mul_one]; exact rfl) ?_
  refine WS.poA (tb := tb) rfl rfl rfl rfl (step_R rfl (evR_loads rfl rfl rfl rfl rfl (by exact (cellsR_part0 (R := rwAct) hx (by exact Nat.le_of_ble_eq_true rfl))) (by exact rfl))) (by simp only [List.drop_zero, List.drop_succ_cons, List.take_succ_cons, List.take_zero, rwRun, rwAct]; exact rfl) ?_
  refine WS.po (tb := tb) rfl rfl rfl rfl rfl ?_; rw [new_mem]; simp only [List.cons_append, List.nil_append, vcells, mem_next, List.length_cons, List.length_nil, Nat.zero_add, Nat.reduceAdd, reps, List.append_nil, setL, List.set_cons_zero, List.set_cons_succ, Nat.zero_mul, Nat.reduceMul]
  refine WS.po0 (tb := tb) rfl rfl rfl rfl (step_H rfl rfl (evH_store rfl rfl rfl rfl rfl (Nat.zero_le _) rfl (by simp [vcells]) (Nat.le_of_ble_eq_true rfl))) ?_; rw [upd_mem _ rfl]; simp only [vcells, setL, List.set_cons_zero, List.set_cons_succ]
  refine WS.pend rfl ?_
  refine WS.pseq rfl ?_
  refine WS.pregion rfl ?_
  refine WS.po (tb := tb) rfl rfl rfl rfl rfl ?_
  refine WS.pcallM (tb := tb) [1,2] T1 rfl rfl rfl rfl rfl (by (try simp only [mapL, mapV, List.getD_cons_zero, List.getD_cons_succ]); exact rfl) (by simp [okL, okV]; fail_if_success exfalso) rfl (by simp [embP, okL, okV, mapL, mapV, mem_next, mem_get, mem_ro, mapL_cellsR, okL_cellsR]; fail_if_success exfalso) rfl ?_; rintro _ _ ⟨rfl, rfl⟩ -; simp only [plugL, setsL, newsL, isOwn, ownB, over, mapL, mapV, List.getD_cons_zero, List.getD_cons_succ, List.set_cons_zero, List.set_cons_succ, List.length_cons, List.length_nil, Nat.reduceAdd, Nat.reduceLT, Nat.zero_add, if_true, if_false, Nat.reduceSub, reduceIte, List.map_cons, List.map_nil, List.append_nil, List.cons_append, List.nil_append, mapL_cellsR, Nat.lt_irrefl, Nat.not_lt_zero, Nat.zero_lt_succ, Nat.lt_add_one]
  refine WS.po (tb := tb) rfl rfl rfl rfl rfl ?_
  refine WS.pend rfl ?_
  refine WS.pseq rfl ?_
  refine WS.pregion rfl ?_
  refine WS.po (tb := tb) rfl rfl rfl rfl rfl ?_
  refine WS.pend rfl ?_
  refine WS.pseq rfl ?_
  refine WS.pseq rfl ?_
  refine WS.pregion rfl ?_
  refine WS.poP (tb := tb) rfl rfl rfl rfl rfl (by simp only [List.getElem_toArray, List.getElem_cons_zero, List.getElem_cons_succ, Nat.zero_add, Nat.add_zero, Nat.reduceAdd, Nat.reduceMul, Nat.add_assoc, Nat.mul_one, Int.toNat_natCast, Int.reduceToNat, Int.toNat_zero, Nat.zero_mul]; exact rfl) ?_
  refine WS.po (tb := tb) rfl rfl rfl rfl rfl ?_
  refine WS.poDF (tb := tb) rfl rfl rfl rfl rfl (by omega) ?_
  refine WS.pend rfl ?_
  refine WS.pcondF rfl rfl ?_
  refine WS.pregion rfl ?_
  refine WS.po (tb := tb) rfl rfl rfl rfl rfl ?_
  refine WS.poP (tb := tb) rfl rfl rfl rfl rfl (by simp only [List.getElem_toArray, List.getElem_cons_zero, List.getElem_cons_succ, Nat.zero_add, Nat.add_zero, Nat.reduceAdd, Nat.reduceMul, Nat.add_assoc, Nat.mul_one, Int.toNat_natCast, Int.reduceToNat, Int.toNat_zero, Nat.zero_mul]; exact rfl) ?_
  refine WS.po (tb := tb) rfl rfl rfl rfl rfl ?_
  refine WS.poP (tb := tb) rfl rfl rfl rfl rfl (by simp only [List.getElem_toArray, List.getElem_cons_zero, List.getElem_cons_succ, Nat.zero_add, Nat.add_zero, Nat.reduceAdd, Nat.reduceMul, Nat.add_assoc, Nat.mul_one, Int.toNat_natCast, Int.reduceToNat, Int.toNat_zero, Nat.zero_mul]; exact rfl) ?_
  refine WS.po (tb := tb) rfl rfl rfl rfl rfl ?_
  refine WS.pcallM (tb := tb) [1,2] B rfl rfl rfl rfl rfl (by (try simp only [mapL, mapV, List.getD_cons_zero, List.getD_cons_succ]); exact rfl) (by simp [okL, okV]; fail_if_success exfalso) rfl (by simp [embP, okL, okV, mapL, mapV, mem_next, mem_get, mem_ro, mapL_cellsR, okL_cellsR]; fail_if_success exfalso) rfl ?_; rintro _ _ ⟨rfl, rfl⟩ -; simp only [plugL, setsL, newsL, isOwn, ownB, over, mapL, mapV, List.getD_cons_zero, List.getD_cons_succ, List.set_cons_zero, List.set_cons_succ, List.length_cons, List.length_nil, Nat.reduceAdd, Nat.reduceLT, Nat.zero_add, if_true, if_false, Nat.reduceSub, reduceIte, List.map_cons, List.map_nil, List.append_nil, List.cons_append, List.nil_append, mapL_cellsR, Nat.lt_irrefl, Nat.not_lt_zero, Nat.zero_lt_succ, Nat.lt_add_one]
  refine WS.po (tb := tb) rfl rfl rfl rfl rfl ?_
  refine WS.pend rfl ?_
  refine WS.pseq rfl ?_
  refine WS.pregion rfl ?_
  refine WS.po (tb := tb) rfl rfl rfl rfl rfl ?_
  refine WS.pcallM (tb := tb) [1,2] T1 rfl rfl rfl rfl rfl (by (try simp only [mapL, mapV, List.getD_cons_zero, List.getD_cons_succ]); exact rfl) (by simp [okL, okV]; fail_if_success exfalso) rfl (by simp [embP, okL, okV, mapL, mapV, mem_next, mem_get, mem_ro, mapL_cellsR, okL_cellsR]; fail_if_success exfalso) rfl ?_; rintro _ _ ⟨rfl, rfl⟩ -; simp only [plugL, setsL, newsL, isOwn, ownB, over, mapL, mapV, List.getD_cons_zero, List.getD_cons_succ, List.set_cons_zero, List.set_cons_succ, List.length_cons, List.length_nil, Nat.reduceAdd, Nat.reduceLT, Nat.zero_add, if_true, if_false, Nat.reduceSub, reduceIte, List.map_cons, List.map_nil, List.append_nil, List.cons_append, List.nil_append, mapL_cellsR, Nat.lt_irrefl, Nat.not_lt_zero, Nat.zero_lt_succ, Nat.lt_add_one]
  refine WS.po (tb := tb) rfl rfl rfl rfl rfl ?_
  refine WS.pend rfl ?_
  refine WS.pseq rfl ?_
  refine WS.pseq rfl ?_
  refine WS.pregion rfl ?_
  refine WS.po (tb := tb) rfl rfl rfl rfl rfl ?_
  refine WS.po (tb := tb) rfl rfl rfl rfl rfl ?_
  refine WS.po (tb := tb) rfl rfl rfl rfl rfl ?_
  refine WS.poNF (tb := tb) rfl rfl rfl rfl rfl (by omega) ?_
  refine WS.po (tb := tb) rfl rfl rfl rfl rfl ?_
  refine WS.po (tb := tb) rfl rfl rfl rfl rfl ?_
  refine WS.po (tb := tb) rfl rfl rfl rfl rfl ?_
  refine WS.po (tb := tb) rfl rfl rfl rfl rfl ?_
  refine WS.poNF (tb := tb) rfl rfl rfl rfl rfl (by omega) ?_
  refine WS.po (tb := tb) rfl rfl rfl rfl rfl ?_
  refine WS.po (tb := tb) rfl rfl rfl rfl rfl ?_
  refine WS.po (tb := tb) rfl rfl rfl rfl rfl ?_
  refine WS.pcallM (tb := tb) [1,2] CN rfl rfl rfl rfl rfl (by (try simp only [mapL, mapV, List.getD_cons_zero, List.getD_cons_succ]); exact rfl) (by simp [okL, okV]; fail_if_success exfalso) rfl (by simp [embP, okL, okV, mapL, mapV, mem_next, mem_get, mem_ro, mapL_cellsR, okL_cellsR]; fail_if_success exfalso) rfl ?_; rintro _ _ ⟨rfl, rfl⟩ -; simp only [plugL, setsL, newsL, isOwn, ownB, over, mapL, mapV, List.getD_cons_zero, List.getD_cons_succ, List.set_cons_zero, List.set_cons_succ, List.length_cons, List.length_nil, Nat.reduceAdd, Nat.reduceLT, Nat.zero_add, if_true, if_false, Nat.reduceSub, reduceIte, List.map_cons, List.map_nil, List.append_nil, List.cons_append, List.nil_append, mapL_cellsR, Nat.lt_irrefl, Nat.not_lt_zero, Nat.zero_lt_succ, Nat.lt_add_one]
  refine WS.po (tb := tb) rfl rfl rfl rfl rfl ?_
  refine WS.poDF (tb := tb) rfl rfl rfl rfl rfl (by omega) ?_
  refine WS.po (tb := tb) rfl rfl rfl rfl rfl ?_
  refine WS.pend rfl ?_
  refine WS.pcondF rfl rfl ?_
  refine WS.pskip rfl ?_
  refine WS.pseq rfl ?_
  refine WS.pseq rfl ?_
  refine WS.pregion rfl ?_
  refine WS.po (tb := tb) rfl rfl rfl rfl rfl ?_
  refine WS.pend rfl ?_
  refine WS.pblock rfl ?_
  refine WS.ploopI (σ := Nat) (τ := Unit) (fun k => [(0, .i .i64 cap), (1, .i .i64 m), (2, .sl (some (0,0)) l.length c false), (7, .p (some (2,0))), (9, .i .i64 i), (10, .p (some (3,0))), (11, .sl (some (4,0)) cap cap true), (12, .i .i64 5), (13, .sl (some (5,0)) cap cap true), (14, .i .i64 k)]) (fun _ => [some ⟨cellsR rwAct l, 34, false⟩, some ⟨cellsR (rwI .i64) t, 3, true⟩, some ⟨[.i .i64 m, .sl (some (1,0)) cap cap q], 59, true⟩, some ⟨[.i .i64 op, .i .i64 a, .i .i64 n, .i .i64 phys], 34, true⟩, some ⟨cellsR (rwI .i64) t, 3, true⟩, some ⟨cellsR (rwI .i64) t, 3, true⟩]) (fun k => k ≤ cap) (fun k => cap - k)
    (fun _ => [(0, .i .i64 cap), (1, .i .i64 m), (2, .sl (some (0,0)) l.length c false), (7, .p (some (2,0))), (9, .i .i64 i), (10, .p (some (3,0))), (12, .i .i64 5)]) (fun _ => [some ⟨cellsR rwAct l, 34, false⟩, some ⟨cellsR (rwI .i64) t, 3, true⟩, some ⟨[.i .i64 m, .sl (some (1,0)) cap cap q], 59, true⟩, some ⟨[.i .i64 op, .i .i64 a, .i .i64 n, .i .i64 phys], 34, true⟩, some ⟨cellsR (rwI .i64) t, 3, true⟩, some ⟨cellsR (rwI .i64) t, 3, true⟩]) (fun _ => True) 2 [0,1,2,3,4,5] 0 rfl (Nat.zero_le _) ⟨rfl, rfl, (by simp [viewP, okL, okV, mapL, mapV, mem_get, mapL_cellsR, okL_cellsR]), (by first | exact rfl | exact own2_dist rfl rfl), (by simp only [slotsP, okV, okL, mapV, mapL, and_true, true_and, List.length_cons, List.length_nil, List.length_append, List.length_map, Nat.reduceAdd, Nat.reduceLT]; repeat' (first | exact rfl | refine ⟨?_, ?_⟩ | exact lk_m rfl (hmp _ rfl) | exact hok _ (Nat.le_of_ble_eq_true rfl) | exact lk_i rfl (by omega) | exact lk_sl rfl (by omega) (by omega) (by omega) | decide | omega))⟩ rfl ?_ ?_
  · intro k hk
    by_cases h : k < cap
    · obtain ⟨w, hw⟩ : ∃ w, t[k]? = some w := ⟨_, List.getElem?_eq_getElem (by omega)⟩
      refine WS.pseq rfl ?_
      refine WS.pseq rfl ?_
      refine WS.pregion rfl ?_
      refine WS.po (tb := tb) rfl rfl rfl rfl rfl ?_
      refine WS.po (tb := tb) rfl rfl rfl rfl rfl ?_
      refine WS.poDT (tb := tb) rfl rfl rfl rfl rfl (by omega) ?_
      refine WS.pend rfl ?_
      refine WS.pcondT rfl rfl ?_
      refine WS.pskip rfl ?_
      refine WS.pseq rfl ?_
      refine WS.pblock rfl ?_
      refine WS.pseq rfl ?_
      refine WS.pregion rfl ?_
      refine WS.po (tb := tb) rfl rfl rfl rfl rfl ?_
      refine WS.poB (tb := tb) false rfl rfl rfl rfl rfl rfl ?_
      refine WS.po (tb := tb) rfl rfl rfl rfl rfl ?_
      refine WS.pono rfl rfl rfl rfl ?_
      refine WS.pono rfl rfl rfl rfl ?_
      refine WS.pono rfl rfl rfl rfl ?_
      refine WS.pono rfl rfl rfl rfl ?_
      refine WS.po (tb := tb) rfl rfl rfl rfl rfl ?_
      refine WS.po (tb := tb) rfl rfl rfl rfl rfl ?_
      refine WS.pono rfl rfl rfl rfl ?_
      refine WS.pono rfl rfl rfl rfl ?_
      refine WS.pono rfl rfl rfl rfl ?_
      refine WS.pono rfl rfl rfl rfl ?_
      refine WS.pono rfl rfl rfl rfl ?_
      refine WS.pono rfl rfl rfl rfl ?_
      refine WS.pono rfl rfl rfl rfl ?_
      refine WS.po (tb := tb) rfl rfl rfl rfl rfl ?_
      refine WS.po (tb := tb) rfl rfl rfl rfl rfl ?_
      refine WS.pend rfl ?_
      refine WS.pseq rfl ?_
      refine WS.pdraw (tb := tb) (by kernel_rfl) rfl (by kernel_rfl) (by kernel_rfl) ?_
      refine WD.p (tb := tb) rfl rfl rfl rfl rfl ?_
      refine WD.pB (tb := tb) true rfl rfl rfl rfl rfl rfl ?_
      refine WD.p (tb := tb) rfl rfl rfl rfl rfl ?_
      refine WD.p (tb := tb) rfl rfl rfl rfl rfl ?_
      refine WD.p (tb := tb) rfl rfl rfl rfl rfl ?_
      refine WD.pP (tb := tb) rfl rfl rfl rfl (evP_index rfl rfl rfl rfl rfl rfl (by omega)) (by simp only [Nat.zero_add, Nat.add_zero, Nat.reduceAdd, Nat.reduceMul, Nat.add_assoc, Nat.mul_one]; exact rfl) ?_
      refine WD.r (tb := tb) rfl rfl rfl rfl (evQ_R rfl (evR_load rfl rfl rfl rfl (cellsI_get hw))) ?_
      refine WD.p (tb := tb) rfl rfl rfl rfl rfl ?_
      refine WD.p (tb := tb) rfl rfl rfl rfl rfl ?_
      refine WD.pP (tb := tb) rfl rfl rfl rfl (evP_index rfl rfl rfl rfl rfl rfl (by omega)) (by simp only [Nat.zero_add, Nat.add_zero, Nat.reduceAdd, Nat.reduceMul, Nat.add_assoc, Nat.mul_one]; exact rfl) ?_
      refine WD.r (tb := tb) rfl rfl rfl rfl (evQ_R rfl (evR_load rfl rfl rfl rfl (cellsI_get hw))) ?_
      refine WD.pNF (tb := tb) rfl rfl rfl rfl rfl (by omega) ?_
      refine WD.p (tb := tb) rfl rfl rfl rfl rfl ?_
      refine WD.p (tb := tb) rfl rfl rfl rfl rfl ?_
      refine WD.p (tb := tb) rfl rfl rfl rfl rfl ?_
      refine WD.p (tb := tb) rfl rfl rfl rfl rfl ?_
      refine WD.no rfl rfl rfl rfl ?_
      refine WD.no1 rfl rfl rfl rfl ?_
      refine WD.no rfl rfl rfl rfl ?_
      refine WD.p (tb := tb) rfl rfl rfl rfl rfl ?_
      refine WD.p (tb := tb) rfl rfl rfl rfl rfl ?_
      refine WD.no rfl rfl rfl rfl ?_
      refine WD.no rfl rfl rfl rfl ?_
      refine WD.no rfl rfl rfl rfl ?_
      refine WD.no1 rfl rfl rfl rfl ?_
      refine WD.no rfl rfl rfl rfl ?_
      refine WD.p (tb := tb) rfl rfl rfl rfl rfl ?_
      refine WD.p (tb := tb) rfl rfl rfl rfl rfl ?_
      refine WD.p (tb := tb) rfl rfl rfl rfl rfl ?_
      refine WD.p (tb := tb) rfl rfl rfl rfl rfl ?_
      refine WD.p (tb := tb) rfl rfl rfl rfl rfl ?_
      refine WD.no rfl rfl rfl rfl ?_
      refine WD.no1 rfl rfl rfl rfl ?_
      refine WD.no rfl rfl rfl rfl ?_
      refine WD.p (tb := tb) rfl rfl rfl rfl rfl ?_
      refine WD.p (tb := tb) rfl rfl rfl rfl rfl ?_
      refine WD.no rfl rfl rfl rfl ?_
      refine WD.no rfl rfl rfl rfl ?_
      refine WD.no rfl rfl rfl rfl ?_
      refine WD.no1 rfl rfl rfl rfl ?_
      refine WD.no rfl rfl rfl rfl ?_
      refine WD.no1 rfl rfl rfl rfl ?_
      refine WD.no rfl rfl rfl rfl ?_
      refine WD.no rfl rfl rfl rfl ?_
      refine WD.no rfl rfl rfl rfl ?_
      refine WD.no1 rfl rfl rfl rfl ?_
      refine WD.no rfl rfl rfl rfl ?_
      refine WD.no rfl rfl rfl rfl ?_
      refine WD.p (tb := tb) rfl rfl rfl rfl rfl ?_
      refine WD.p (tb := tb) rfl rfl rfl rfl rfl ?_
      refine WD.fin rfl ?_
      refine WS.pcondF rfl rfl ?_
      refine WS.pskip rfl ?_
      refine WS.pregion rfl ?_
      refine WS.po (tb := tb) rfl rfl rfl rfl rfl ?_
      refine WS.poW (tb := tb) rfl rfl rfl rfl rfl (by simp only [lo]; omega) (by simp only [Am.hi]; omega) ?_
      refine WS.po (tb := tb) rfl rfl rfl rfl rfl ?_
      refine WS.pend rfl ?_
      refine WS.nil ?_
      exact ⟨k + 1, by omega, by omega, (SeenBy.seen (v := [0,1,2,3,4,5]) ⟨rfl, rfl, (by simp [viewP, okL, okV, mapL, mapV, mem_get, mapL_cellsR, okL_cellsR]), (by first | exact rfl | exact own2_dist rfl rfl), (by simp only [slotsP, okV, okL, mapV, mapL, and_true, true_and, List.length_cons, List.length_nil, List.length_append, List.length_map, Nat.reduceAdd, Nat.reduceLT]; repeat' (first | exact rfl | refine ⟨?_, ?_⟩ | exact lk_m rfl (hmp _ rfl) | exact hok _ (Nat.le_of_ble_eq_true rfl) | exact lk_i rfl (by omega) | exact lk_sl rfl (by omega) (by omega) (by omega) | decide | omega))⟩)⟩
    · refine WS.pseq rfl ?_
      refine WS.pseq rfl ?_
      refine WS.pregion rfl ?_
      refine WS.po (tb := tb) rfl rfl rfl rfl rfl ?_
      refine WS.po (tb := tb) rfl rfl rfl rfl rfl ?_
      refine WS.poDF (tb := tb) rfl rfl rfl rfl rfl (by omega) ?_
      refine WS.pend rfl ?_
      refine WS.pcondF rfl rfl ?_
      refine WS.pout rfl rfl ?_
      exact ⟨rfl, (), trivial, (SeenBy.seen (v := [0,1,2,3,4,5]) ⟨rfl, rfl, (by simp [viewP, okL, okV, mapL, mapV, mem_get, mapL_cellsR, okL_cellsR]), (by first | exact rfl | exact own2_dist rfl rfl), (by simp only [slotsP, okV, okL, mapV, mapL, and_true, true_and, List.length_cons, List.length_nil, List.length_append, List.length_map, Nat.reduceAdd, Nat.reduceLT]; repeat' (first | exact rfl | refine ⟨?_, ?_⟩ | exact lk_m rfl (hmp _ rfl) | exact hok _ (Nat.le_of_ble_eq_true rfl) | exact lk_i rfl (by omega) | exact lk_sl rfl (by omega) (by omega) (by omega) | decide | omega))⟩)⟩
  · rintro _ -
    refine WS.pseq rfl ?_
    refine WS.pregion rfl ?_
    refine WS.po (tb := tb) rfl rfl rfl rfl rfl ?_
    refine WS.poB (tb := tb) false rfl rfl rfl rfl rfl rfl ?_
    refine WS.po (tb := tb) rfl rfl rfl rfl rfl ?_
    refine WS.pono rfl rfl rfl rfl ?_
    refine WS.pono rfl rfl rfl rfl ?_
    refine WS.pono rfl rfl rfl rfl ?_
    refine WS.pono rfl rfl rfl rfl ?_
    refine WS.pono rfl rfl rfl rfl ?_
    refine WS.pono rfl rfl rfl rfl ?_
    refine WS.pono rfl rfl rfl rfl ?_
    refine WS.po (tb := tb) rfl rfl rfl rfl rfl ?_
    refine WS.pend rfl ?_
    refine WS.pcondF rfl rfl ?_
    refine WS.pskip rfl ?_
    refine WS.pregion rfl ?_
    refine WS.po (tb := tb) rfl rfl rfl rfl rfl ?_
    refine WS.poW (tb := tb) rfl rfl rfl rfl rfl (by simp only [lo]; omega) (by simp only [Am.hi]; omega) ?_
    refine WS.po (tb := tb) rfl rfl rfl rfl rfl ?_
    refine WS.pend rfl ?_
    refine WS.nil ?_
    exact ⟨⟨i + 1, t, q⟩, ⟨by dsimp only; omega, hlen, hb, hcnt⟩, by dsimp only; omega, (SeenBy.seen (v := [0,1,2]) ⟨rfl, rfl, (by simp [viewP, okL, okV, mapL, mapV, mem_get, mapL_cellsR, okL_cellsR, SSk, MMk]), (by first | exact rfl | exact own2_dist rfl rfl), (by simp only [slotsP, okV, okL, mapV, mapL, and_true, true_and, List.length_cons, List.length_nil, List.length_append, List.length_map, Nat.reduceAdd, Nat.reduceLT, SSk, MMk]; repeat' (first | exact rfl | refine ⟨?_, ?_⟩ | exact lk_m rfl (hmp _ rfl) | exact hok _ (Nat.le_of_ble_eq_true rfl) | exact lk_i rfl (by omega) | exact lk_sl rfl (by omega) (by omega) (by omega) | decide | omega))⟩)⟩

theorem kp_cok (cap m : Nat) (l : List Act) (c i : Nat) (t : List Int) (q : Bool) (op : Int) (hop : op ≠ 0) (a n : Nat) (phys : Int) (h0 : 1 ≤ n) (h1 : a + n ≤ cap) (hf : ¬ (m : Int) < (runsN (putN t a n (fun _ : Nat => -1)) cap).length) (H : InvK cap m l.length ⟨i, t, q⟩) (hl : l.length ≤ 60) (hc0 : 1 ≤ cap) (hc : cap ≤ 64) (hm : m ≤ 512) (hx : l[i]? = some ⟨op, a, n, phys⟩) :
    WS Try.prog (frameN Try.f5 3) 1 [.c (k1 (k1 (k2 (k1 (k2 (k2 (k2 (k2 (kb Try.f5)))))))))] (slt (SSk cap m (some (0,0)) l.length c ⟨i, t, q⟩)) (mem 0 (MMk l cap m ⟨i, t, q⟩)) (PostK cap m l c ⟨i, t, q⟩) := by
  have hi : i < l.length := (List.getElem?_eq_some_iff.1 hx).1
  have hlen : t.length = cap := H.len
  have hb : Bnd t := H.bnd
  have hcnt : (runsN t cap).length ≤ m := H.cnt
  have T1 := table_walk t m q (by omega) (by omega)
  have hlenu : (putN t a n (fun _ : Nat => -1)).length = cap := by rw [putN_len, hlen]
  have hbu : Bnd (putN t a n (fun _ : Nat => -1)) := putN_bnd hb fun j hj => by omega
  have CN := cnt_walk (putN t a n (fun _ : Nat => -1)) m true (by omega) hbu
  have T2 := table_walk (putN t a n (fun _ : Nat => -1)) m true (by omega) (by omega)
  simp only [mapM, hlenu, List.cons_append, List.nil_append] at CN T2
  have B := clear_walk_ok t m q a n h0 (by omega) (by omega) hb (by rw [hlen]; exact hf)
  simp only [mapM, hlen, List.cons_append, List.nil_append] at B

  simp only [mapM, hlen, List.cons_append, List.nil_append] at T1
  simp only [SSk, MMk]
  refine WS.pseq rfl ?_
  refine WS.pseq rfl ?_
  refine WS.pregion rfl ?_
  refine WS.po (tb := tb) rfl rfl rfl rfl rfl ?_
  refine WS.po (tb := tb) rfl rfl rfl rfl rfl ?_
  refine WS.po (tb := tb) rfl rfl rfl rfl rfl ?_
  refine WS.poDT (tb := tb) rfl rfl rfl rfl rfl (by omega) ?_
  refine WS.pend rfl ?_
  refine WS.pcondT rfl rfl ?_
  refine WS.pskip rfl ?_
  refine WS.pseq rfl ?_
  refine WS.pblock rfl ?_
  refine WS.pseq rfl ?_
  refine WS.pregion rfl ?_
  refine WS.po (tb := tb) rfl rfl rfl rfl rfl ?_
  refine WS.po (tb := tb) rfl rfl rfl rfl rfl ?_
  refine WS.poP (tb := tb) rfl rfl rfl rfl (step_P (evP_index rfl rfl rfl rfl rfl rfl (by omega))) (by simp only [Nat.zero_add, Nat.add_zero, Nat.reduceAdd, Nat.reduceMul, Nat.add_assoc, Nat.mul_one]; exact rfl) ?_
  refine WS.poA (tb := tb) rfl rfl rfl rfl (step_R rfl (evR_loads rfl rfl rfl rfl rfl (by exact (cellsR_part0 (R := rwAct) hx (by exact Nat.le_of_ble_eq_true rfl))) (by exact rfl))) (by simp only [List.drop_zero, List.drop_succ_cons, List.take_succ_cons, List.take_zero, rwRun, rwAct]; exact rfl) ?_
  refine WS.po (tb := tb) rfl rfl rfl rfl rfl ?_; rw [new_mem]; simp only [List.cons_append, List.nil_append, vcells, mem_next, List.length_cons, List.length_nil, Nat.zero_add, Nat.reduceAdd, reps, List.append_nil, setL, List.set_cons_zero, List.set_cons_succ, Nat.zero_mul, Nat.reduceMul]
  refine WS.po0 (tb := tb) rfl rfl rfl rfl (step_H rfl rfl (evH_store rfl rfl rfl rfl rfl (Nat.zero_le _) rfl (by simp [vcells]) (Nat.le_of_ble_eq_true rfl))) ?_; rw [upd_mem _ rfl]; simp only [vcells, setL, List.set_cons_zero, List.set_cons_succ]
  refine WS.pend rfl ?_
  refine WS.pseq rfl ?_
  refine WS.pregion rfl ?_
  refine WS.po (tb := tb) rfl rfl rfl rfl rfl ?_
  refine WS.pcallM (tb := tb) [1,2] T1 rfl rfl rfl rfl rfl (by (try simp only [mapL, mapV, List.getD_cons_zero, List.getD_cons_succ]); exact rfl) (by simp [okL, okV]; fail_if_success exfalso) rfl (by simp [embP, okL, okV, mapL, mapV, mem_next, mem_get, mem_ro, mapL_cellsR, okL_cellsR]; fail_if_success exfalso) rfl ?_; rintro _ _ ⟨rfl, rfl⟩ -; simp only [plugL, setsL, newsL, isOwn, ownB, over, mapL, mapV, List.getD_cons_zero, List.getD_cons_succ, List.set_cons_zero, List.set_cons_succ, List.length_cons, List.length_nil, Nat.reduceAdd, Nat.reduceLT, Nat.zero_add, if_true, if_false, Nat.reduceSub, reduceIte, List.map_cons, List.map_nil, List.append_nil, List.cons_append, List.nil_append, mapL_cellsR, Nat.lt_irrefl, Nat.not_lt_zero, Nat.zero_lt_succ, Nat.lt_add_one]
  refine WS.po (tb := tb) rfl rfl rfl rfl rfl ?_
  refine WS.pend rfl ?_
  refine WS.pseq rfl ?_
  refine WS.pregion rfl ?_
  refine WS.po (tb := tb) rfl rfl rfl rfl rfl ?_
  refine WS.pend rfl ?_
  refine WS.pseq rfl ?_
  refine WS.pseq rfl ?_
  refine WS.pregion rfl ?_
  refine WS.poP (tb := tb) rfl rfl rfl rfl rfl (by simp only [List.getElem_toArray, List.getElem_cons_zero, List.getElem_cons_succ, Nat.zero_add, Nat.add_zero, Nat.reduceAdd, Nat.reduceMul, Nat.add_assoc, Nat.mul_one, Int.toNat_natCast, Int.reduceToNat, Int.toNat_zero, Nat.zero_mul]; exact rfl) ?_
  refine WS.po (tb := tb) rfl rfl rfl rfl rfl ?_
  refine WS.poDF (tb := tb) rfl rfl rfl rfl rfl (by omega) ?_
  refine WS.pend rfl ?_
  refine WS.pcondF rfl rfl ?_
  refine WS.pregion rfl ?_
  refine WS.po (tb := tb) rfl rfl rfl rfl rfl ?_
  refine WS.poP (tb := tb) rfl rfl rfl rfl rfl (by simp only [List.getElem_toArray, List.getElem_cons_zero, List.getElem_cons_succ, Nat.zero_add, Nat.add_zero, Nat.reduceAdd, Nat.reduceMul, Nat.add_assoc, Nat.mul_one, Int.toNat_natCast, Int.reduceToNat, Int.toNat_zero, Nat.zero_mul]; exact rfl) ?_
  refine WS.po (tb := tb) rfl rfl rfl rfl rfl ?_
  refine WS.poP (tb := tb) rfl rfl rfl rfl rfl (by simp only [List.getElem_toArray, List.getElem_cons_zero, List.getElem_cons_succ, Nat.zero_add, Nat.add_zero, Nat.reduceAdd, Nat.reduceMul, Nat.add_assoc, Nat.mul_one, Int.toNat_natCast, Int.reduceToNat, Int.toNat_zero, Nat.zero_mul]; exact rfl) ?_
  refine WS.po (tb := tb) rfl rfl rfl rfl rfl ?_
  refine WS.pcallM (tb := tb) [1,2] B rfl rfl rfl rfl rfl (by (try simp only [mapL, mapV, List.getD_cons_zero, List.getD_cons_succ]); exact rfl) (by simp [okL, okV]; fail_if_success exfalso) rfl (by simp [embP, okL, okV, mapL, mapV, mem_next, mem_get, mem_ro, mapL_cellsR, okL_cellsR]; fail_if_success exfalso) rfl ?_; rintro _ _ ⟨rfl, rfl⟩ -; simp only [plugL, setsL, newsL, isOwn, ownB, over, mapL, mapV, List.getD_cons_zero, List.getD_cons_succ, List.set_cons_zero, List.set_cons_succ, List.length_cons, List.length_nil, Nat.reduceAdd, Nat.reduceLT, Nat.zero_add, if_true, if_false, Nat.reduceSub, reduceIte, List.map_cons, List.map_nil, List.append_nil, List.cons_append, List.nil_append, mapL_cellsR, Nat.lt_irrefl, Nat.not_lt_zero, Nat.zero_lt_succ, Nat.lt_add_one]
  refine WS.po (tb := tb) rfl rfl rfl rfl rfl ?_
  refine WS.pend rfl ?_
  refine WS.pseq rfl ?_
  refine WS.pregion rfl ?_
  refine WS.po (tb := tb) rfl rfl rfl rfl rfl ?_
  refine WS.pcallM (tb := tb) [5,2] T2 rfl rfl rfl rfl rfl (by (try simp only [mapL, mapV, List.getD_cons_zero, List.getD_cons_succ]); exact rfl) (by simp [okL, okV]; fail_if_success exfalso) rfl (by simp [embP, okL, okV, mapL, mapV, mem_next, mem_get, mem_ro, mapL_cellsR, okL_cellsR]; fail_if_success exfalso) rfl ?_; rintro _ _ ⟨rfl, rfl⟩ -; simp only [plugL, setsL, newsL, isOwn, ownB, over, mapL, mapV, List.getD_cons_zero, List.getD_cons_succ, List.set_cons_zero, List.set_cons_succ, List.length_cons, List.length_nil, Nat.reduceAdd, Nat.reduceLT, Nat.zero_add, if_true, if_false, Nat.reduceSub, reduceIte, List.map_cons, List.map_nil, List.append_nil, List.cons_append, List.nil_append, mapL_cellsR, Nat.lt_irrefl, Nat.not_lt_zero, Nat.zero_lt_succ, Nat.lt_add_one]
  refine WS.po (tb := tb) rfl rfl rfl rfl rfl ?_
  refine WS.pend rfl ?_
  refine WS.pseq rfl ?_
  refine WS.pseq rfl ?_
  refine WS.pregion rfl ?_
  refine WS.po (tb := tb) rfl rfl rfl rfl rfl ?_
  refine WS.po (tb := tb) rfl rfl rfl rfl rfl ?_
  refine WS.po (tb := tb) rfl rfl rfl rfl rfl ?_
  refine WS.poNF (tb := tb) rfl rfl rfl rfl rfl (by omega) ?_
  refine WS.po (tb := tb) rfl rfl rfl rfl rfl ?_
  refine WS.po (tb := tb) rfl rfl rfl rfl rfl ?_
  refine WS.po (tb := tb) rfl rfl rfl rfl rfl ?_
  refine WS.po (tb := tb) rfl rfl rfl rfl rfl ?_
  refine WS.poNF (tb := tb) rfl rfl rfl rfl rfl (by omega) ?_
  refine WS.po (tb := tb) rfl rfl rfl rfl rfl ?_
  refine WS.po (tb := tb) rfl rfl rfl rfl rfl ?_
  refine WS.po (tb := tb) rfl rfl rfl rfl rfl ?_
  refine WS.pcallM (tb := tb) [5,2] CN rfl rfl rfl rfl rfl (by (try simp only [mapL, mapV, List.getD_cons_zero, List.getD_cons_succ]); exact rfl) (by simp [okL, okV]; fail_if_success exfalso) rfl (by simp [embP, okL, okV, mapL, mapV, mem_next, mem_get, mem_ro, mapL_cellsR, okL_cellsR]; fail_if_success exfalso) rfl ?_; rintro _ _ ⟨rfl, rfl⟩ -; simp only [plugL, setsL, newsL, isOwn, ownB, over, mapL, mapV, List.getD_cons_zero, List.getD_cons_succ, List.set_cons_zero, List.set_cons_succ, List.length_cons, List.length_nil, Nat.reduceAdd, Nat.reduceLT, Nat.zero_add, if_true, if_false, Nat.reduceSub, reduceIte, List.map_cons, List.map_nil, List.append_nil, List.cons_append, List.nil_append, mapL_cellsR, Nat.lt_irrefl, Nat.not_lt_zero, Nat.zero_lt_succ, Nat.lt_add_one]
  refine WS.po (tb := tb) rfl rfl rfl rfl rfl ?_
  refine WS.poDF (tb := tb) rfl rfl rfl rfl rfl (by omega) ?_
  refine WS.po (tb := tb) rfl rfl rfl rfl rfl ?_
  refine WS.pend rfl ?_
  refine WS.pcondF rfl rfl ?_
  refine WS.pskip rfl ?_
  refine WS.pseq rfl ?_
  refine WS.pseq rfl ?_
  refine WS.pregion rfl ?_
  refine WS.po (tb := tb) rfl rfl rfl rfl rfl ?_
  refine WS.pend rfl ?_
  refine WS.pblock rfl ?_
  refine WS.ploopI (σ := Nat) (τ := Unit) (fun k => [(0, .i .i64 cap), (1, .i .i64 m), (2, .sl (some (0,0)) l.length c false), (7, .p (some (2,0))), (9, .i .i64 i), (10, .p (some (3,0))), (11, .sl (some (4,0)) cap cap true), (12, .i .i64 0), (13, .sl (some (5,0)) cap cap true), (14, .i .i64 k)]) (fun _ => [some ⟨cellsR rwAct l, 34, false⟩, some ⟨cellsR (rwI .i64) (putN t a n (fun _ : Nat => -1)), 3, true⟩, some ⟨[.i .i64 m, .sl (some (1,0)) cap cap true], 59, true⟩, some ⟨[.i .i64 op, .i .i64 a, .i .i64 n, .i .i64 phys], 34, true⟩, some ⟨cellsR (rwI .i64) t, 3, true⟩, some ⟨cellsR (rwI .i64) (putN t a n (fun _ : Nat => -1)), 3, true⟩]) (fun k => k ≤ cap) (fun k => cap - k)
    (fun _ => [(0, .i .i64 cap), (1, .i .i64 m), (2, .sl (some (0,0)) l.length c false), (7, .p (some (2,0))), (9, .i .i64 i), (10, .p (some (3,0))), (12, .i .i64 0)]) (fun _ => [some ⟨cellsR rwAct l, 34, false⟩, some ⟨cellsR (rwI .i64) (putN t a n (fun _ : Nat => -1)), 3, true⟩, some ⟨[.i .i64 m, .sl (some (1,0)) cap cap true], 59, true⟩, some ⟨[.i .i64 op, .i .i64 a, .i .i64 n, .i .i64 phys], 34, true⟩, some ⟨cellsR (rwI .i64) t, 3, true⟩, some ⟨cellsR (rwI .i64) (putN t a n (fun _ : Nat => -1)), 3, true⟩]) (fun _ => True) 2 [0,5,2,3,4,6] 0 rfl (Nat.zero_le _) ⟨rfl, rfl, (by simp [viewP, okL, okV, mapL, mapV, mem_get, mapL_cellsR, okL_cellsR]), (by first | exact rfl | exact own2_dist rfl rfl), (by simp only [slotsP, okV, okL, mapV, mapL, and_true, true_and, List.length_cons, List.length_nil, List.length_append, List.length_map, Nat.reduceAdd, Nat.reduceLT]; repeat' (first | exact rfl | refine ⟨?_, ?_⟩ | exact lk_m rfl (hmp _ rfl) | exact hok _ (Nat.le_of_ble_eq_true rfl) | exact lk_i rfl (by omega) | exact lk_sl rfl (by omega) (by omega) (by omega) | decide | omega))⟩ rfl ?_ ?_
  · intro k hk
    by_cases h : k < cap
    · obtain ⟨w, hw⟩ : ∃ w, t[k]? = some w := ⟨_, List.getElem?_eq_getElem (by omega)⟩
      by_cases h7 : a ≤ k ∧ k < a + n
      · have hu : ((putN t a n (fun _ : Nat => -1)))[k]? = some (-1) := by rw [putN, mkl_get (by omega), if_pos h7]
        have eK : ((k - a : Nat) : Int) = (k : Int) - a := by omega
        refine WS.pseq rfl ?_
        refine WS.pseq rfl ?_
        refine WS.pregion rfl ?_
        refine WS.po (tb := tb) rfl rfl rfl rfl rfl ?_
        refine WS.po (tb := tb) rfl rfl rfl rfl rfl ?_
        refine WS.poDT (tb := tb) rfl rfl rfl rfl rfl (by omega) ?_
        refine WS.pend rfl ?_
        refine WS.pcondT rfl rfl ?_
        refine WS.pskip rfl ?_
        refine WS.pseq rfl ?_
        refine WS.pblock rfl ?_
        refine WS.pseq rfl ?_
        refine WS.pregion rfl ?_
        refine WS.po (tb := tb) rfl rfl rfl rfl rfl ?_
        refine WS.poB (tb := tb) true rfl rfl rfl rfl rfl rfl ?_
        refine WS.po (tb := tb) rfl rfl rfl rfl rfl ?_
        refine WS.po (tb := tb) rfl rfl rfl rfl rfl ?_
        refine WS.poP (tb := tb) rfl rfl rfl rfl rfl (by simp only [List.getElem_toArray, List.getElem_cons_zero, List.getElem_cons_succ, Nat.zero_add, Nat.add_zero, Nat.reduceAdd, Nat.reduceMul, Nat.add_assoc, Nat.mul_one, Int.toNat_natCast, Int.reduceToNat, Int.toNat_zero, Nat.zero_mul]; exact rfl) ?_
        refine WS.po (tb := tb) rfl rfl rfl rfl rfl ?_
        refine WS.poDT (tb := tb) rfl rfl rfl rfl rfl (by omega) ?_
        refine WS.po (tb := tb) rfl rfl rfl rfl rfl ?_
        refine WS.po (tb := tb) rfl rfl rfl rfl rfl ?_
        refine WS.po (tb := tb) rfl rfl rfl rfl rfl ?_
        refine WS.poP (tb := tb) rfl rfl rfl rfl rfl (by simp only [List.getElem_toArray, List.getElem_cons_zero, List.getElem_cons_succ, Nat.zero_add, Nat.add_zero, Nat.reduceAdd, Nat.reduceMul, Nat.add_assoc, Nat.mul_one, Int.toNat_natCast, Int.reduceToNat, Int.toNat_zero, Nat.zero_mul]; exact rfl) ?_
        refine WS.po (tb := tb) rfl rfl rfl rfl rfl ?_
        refine WS.poW (tb := tb) rfl rfl rfl rfl rfl (by simp only [lo]; omega) (by simp only [Am.hi]; omega) ?_
        refine WS.poP (tb := tb) rfl rfl rfl rfl rfl (by simp only [List.getElem_toArray, List.getElem_cons_zero, List.getElem_cons_succ, Nat.zero_add, Nat.add_zero, Nat.reduceAdd, Nat.reduceMul, Nat.add_assoc, Nat.mul_one, Int.toNat_natCast, Int.reduceToNat, Int.toNat_zero, Nat.zero_mul]; exact rfl) ?_
        refine WS.po (tb := tb) rfl rfl rfl rfl rfl ?_
        refine WS.poDT (tb := tb) rfl rfl rfl rfl rfl (by omega) ?_
        refine WS.po (tb := tb) rfl rfl rfl rfl rfl ?_
        refine WS.po (tb := tb) rfl rfl rfl rfl rfl ?_
        refine WS.pend rfl ?_
        refine WS.pseq rfl ?_
        refine WS.pdraw (tb := tb) (by kernel_rfl) rfl (by kernel_rfl) (by kernel_rfl) ?_
        refine WD.p (tb := tb) rfl rfl rfl rfl rfl ?_
        refine WD.pB (tb := tb) false rfl rfl rfl rfl rfl rfl ?_
        refine WD.p (tb := tb) rfl rfl rfl rfl rfl ?_
        refine WD.no rfl rfl rfl rfl ?_
        refine WD.no rfl rfl rfl rfl ?_
        refine WD.no rfl rfl rfl rfl ?_
        refine WD.no1 rfl rfl rfl rfl ?_
        refine WD.no rfl rfl rfl rfl ?_
        refine WD.no rfl rfl rfl rfl ?_
        refine WD.no rfl rfl rfl rfl ?_
        refine WD.no1 rfl rfl rfl rfl ?_
        refine WD.no rfl rfl rfl rfl ?_
        refine WD.p (tb := tb) rfl rfl rfl rfl rfl ?_
        refine WD.p (tb := tb) rfl rfl rfl rfl rfl ?_
        refine WD.p (tb := tb) rfl rfl rfl rfl rfl ?_
        refine WD.p (tb := tb) rfl rfl rfl rfl rfl ?_
        refine WD.pP (tb := tb) rfl rfl rfl rfl rfl (by simp only [List.getElem_toArray, List.getElem_cons_zero, List.getElem_cons_succ, Nat.zero_add, Nat.add_zero, Nat.reduceAdd, Nat.reduceMul, Nat.add_assoc, Nat.mul_one, Int.toNat_natCast, Int.reduceToNat, Int.toNat_zero, Nat.zero_mul]; exact rfl) ?_
        refine WD.r (tb := tb) rfl rfl rfl rfl rfl ?_
        refine WD.pNT (tb := tb) rfl rfl rfl rfl rfl (by omega) ?_
        refine WD.p (tb := tb) rfl rfl rfl rfl rfl ?_
        refine WD.p (tb := tb) rfl rfl rfl rfl rfl ?_
        refine WD.p (tb := tb) rfl rfl rfl rfl rfl ?_
        refine WD.p (tb := tb) rfl rfl rfl rfl rfl ?_
        refine WD.pP (tb := tb) rfl rfl rfl rfl (evP_index rfl rfl rfl rfl rfl rfl (by omega)) (by simp only [Nat.zero_add, Nat.add_zero, Nat.reduceAdd, Nat.reduceMul, Nat.add_assoc, Nat.mul_one]; exact rfl) ?_
        refine WD.r (tb := tb) rfl rfl rfl rfl (evQ_R rfl (evR_load rfl rfl rfl rfl (cellsI_get hu))) ?_
        refine WD.pB (tb := tb) false rfl rfl rfl rfl rfl rfl ?_
        refine WD.p (tb := tb) rfl rfl rfl rfl rfl ?_
        refine WD.p (tb := tb) rfl rfl rfl rfl rfl ?_
        refine WD.p (tb := tb) rfl rfl rfl rfl rfl ?_
        refine WD.p (tb := tb) rfl rfl rfl rfl rfl ?_
        refine WD.p (tb := tb) rfl rfl rfl rfl rfl ?_
        refine WD.pP (tb := tb) rfl rfl rfl rfl rfl (by simp only [List.getElem_toArray, List.getElem_cons_zero, List.getElem_cons_succ, Nat.zero_add, Nat.add_zero, Nat.reduceAdd, Nat.reduceMul, Nat.add_assoc, Nat.mul_one, Int.toNat_natCast, Int.reduceToNat, Int.toNat_zero, Nat.zero_mul]; exact rfl) ?_
        refine WD.r (tb := tb) rfl rfl rfl rfl rfl ?_
        refine WD.pDF (tb := tb) rfl rfl rfl rfl rfl (by omega) ?_
        refine WD.p (tb := tb) rfl rfl rfl rfl rfl ?_
        refine WD.p (tb := tb) rfl rfl rfl rfl rfl ?_
        refine WD.no rfl rfl rfl rfl ?_
        refine WD.no rfl rfl rfl rfl ?_
        refine WD.no rfl rfl rfl rfl ?_
        refine WD.no1 rfl rfl rfl rfl ?_
        refine WD.no rfl rfl rfl rfl ?_
        refine WD.no1 rfl rfl rfl rfl ?_
        refine WD.no rfl rfl rfl rfl ?_
        refine WD.no rfl rfl rfl rfl ?_
        refine WD.no rfl rfl rfl rfl ?_
        refine WD.no1 rfl rfl rfl rfl ?_
        refine WD.no rfl rfl rfl rfl ?_
        refine WD.no rfl rfl rfl rfl ?_
        refine WD.p (tb := tb) rfl rfl rfl rfl rfl ?_
        refine WD.p (tb := tb) rfl rfl rfl rfl rfl ?_
        refine WD.fin rfl ?_
        refine WS.pcondF rfl rfl ?_
        refine WS.pskip rfl ?_
        refine WS.pregion rfl ?_
        refine WS.po (tb := tb) rfl rfl rfl rfl rfl ?_
        refine WS.poW (tb := tb) rfl rfl rfl rfl rfl (by simp only [lo]; omega) (by simp only [Am.hi]; omega) ?_
        refine WS.po (tb := tb) rfl rfl rfl rfl rfl ?_
        refine WS.pend rfl ?_
        refine WS.nil ?_
        exact ⟨k + 1, by omega, by omega, (SeenBy.seen (v := [0,1,2,3,4,5]) ⟨rfl, rfl, (by simp [viewP, okL, okV, mapL, mapV, mem_get, mapL_cellsR, okL_cellsR]), (by first | exact rfl | exact own2_dist rfl rfl), (by simp only [slotsP, okV, okL, mapV, mapL, and_true, true_and, List.length_cons, List.length_nil, List.length_append, List.length_map, Nat.reduceAdd, Nat.reduceLT]; repeat' (first | exact rfl | refine ⟨?_, ?_⟩ | exact lk_m rfl (hmp _ rfl) | exact hok _ (Nat.le_of_ble_eq_true rfl) | exact lk_i rfl (by omega) | exact lk_sl rfl (by omega) (by omega) (by omega) | decide | omega))⟩)⟩
      · have hu : ((putN t a n (fun _ : Nat => -1)))[k]? = some w := by rw [putN, mkl_get (by omega), if_neg h7, getD_of hw]
        by_cases h8 : k < a
        · refine WS.pseq rfl ?_
          refine WS.pseq rfl ?_
          refine WS.pregion rfl ?_
          refine WS.po (tb := tb) rfl rfl rfl rfl rfl ?_
          refine WS.po (tb := tb) rfl rfl rfl rfl rfl ?_
          refine WS.poDT (tb := tb) rfl rfl rfl rfl rfl (by omega) ?_
          refine WS.pend rfl ?_
          refine WS.pcondT rfl rfl ?_
          refine WS.pskip rfl ?_
          refine WS.pseq rfl ?_
          refine WS.pblock rfl ?_
          refine WS.pseq rfl ?_
          refine WS.pregion rfl ?_
          refine WS.po (tb := tb) rfl rfl rfl rfl rfl ?_
          refine WS.poB (tb := tb) true rfl rfl rfl rfl rfl rfl ?_
          refine WS.po (tb := tb) rfl rfl rfl rfl rfl ?_
          refine WS.po (tb := tb) rfl rfl rfl rfl rfl ?_
          refine WS.poP (tb := tb) rfl rfl rfl rfl rfl (by simp only [List.getElem_toArray, List.getElem_cons_zero, List.getElem_cons_succ, Nat.zero_add, Nat.add_zero, Nat.reduceAdd, Nat.reduceMul, Nat.add_assoc, Nat.mul_one, Int.toNat_natCast, Int.reduceToNat, Int.toNat_zero, Nat.zero_mul]; exact rfl) ?_
          refine WS.po (tb := tb) rfl rfl rfl rfl rfl ?_
          refine WS.poDF (tb := tb) rfl rfl rfl rfl rfl (by omega) ?_
          refine WS.po (tb := tb) rfl rfl rfl rfl rfl ?_
          refine WS.po (tb := tb) rfl rfl rfl rfl rfl ?_
          refine WS.pono rfl rfl rfl rfl ?_
          refine WS.pono rfl rfl rfl rfl ?_
          refine WS.pono rfl rfl rfl rfl ?_
          refine WS.pono rfl rfl rfl rfl ?_
          refine WS.pono rfl rfl rfl rfl ?_
          refine WS.pono rfl rfl rfl rfl ?_
          refine WS.pono rfl rfl rfl rfl ?_
          refine WS.po (tb := tb) rfl rfl rfl rfl rfl ?_
          refine WS.po (tb := tb) rfl rfl rfl rfl rfl ?_
          refine WS.pend rfl ?_
          refine WS.pseq rfl ?_
          refine WS.pdraw (tb := tb) (by kernel_rfl) rfl (by kernel_rfl) (by kernel_rfl) ?_
          refine WD.p (tb := tb) rfl rfl rfl rfl rfl ?_
          refine WD.pB (tb := tb) true rfl rfl rfl rfl rfl rfl ?_
          refine WD.p (tb := tb) rfl rfl rfl rfl rfl ?_
          refine WD.p (tb := tb) rfl rfl rfl rfl rfl ?_
          refine WD.p (tb := tb) rfl rfl rfl rfl rfl ?_
          refine WD.pP (tb := tb) rfl rfl rfl rfl (evP_index rfl rfl rfl rfl rfl rfl (by omega)) (by simp only [Nat.zero_add, Nat.add_zero, Nat.reduceAdd, Nat.reduceMul, Nat.add_assoc, Nat.mul_one]; exact rfl) ?_
          refine WD.r (tb := tb) rfl rfl rfl rfl (evQ_R rfl (evR_load rfl rfl rfl rfl (cellsI_get hu))) ?_
          refine WD.p (tb := tb) rfl rfl rfl rfl rfl ?_
          refine WD.p (tb := tb) rfl rfl rfl rfl rfl ?_
          refine WD.pP (tb := tb) rfl rfl rfl rfl (evP_index rfl rfl rfl rfl rfl rfl (by omega)) (by simp only [Nat.zero_add, Nat.add_zero, Nat.reduceAdd, Nat.reduceMul, Nat.add_assoc, Nat.mul_one]; exact rfl) ?_
          refine WD.r (tb := tb) rfl rfl rfl rfl (evQ_R rfl (evR_load rfl rfl rfl rfl (cellsI_get hw))) ?_
          refine WD.pNF (tb := tb) rfl rfl rfl rfl rfl (by omega) ?_
          refine WD.p (tb := tb) rfl rfl rfl rfl rfl ?_
          refine WD.p (tb := tb) rfl rfl rfl rfl rfl ?_
          refine WD.p (tb := tb) rfl rfl rfl rfl rfl ?_
          refine WD.p (tb := tb) rfl rfl rfl rfl rfl ?_
          refine WD.no rfl rfl rfl rfl ?_
          refine WD.no1 rfl rfl rfl rfl ?_
          refine WD.no rfl rfl rfl rfl ?_
          refine WD.p (tb := tb) rfl rfl rfl rfl rfl ?_
          refine WD.p (tb := tb) rfl rfl rfl rfl rfl ?_
          refine WD.no rfl rfl rfl rfl ?_
          refine WD.no rfl rfl rfl rfl ?_
          refine WD.no rfl rfl rfl rfl ?_
          refine WD.no1 rfl rfl rfl rfl ?_
          refine WD.no rfl rfl rfl rfl ?_
          refine WD.p (tb := tb) rfl rfl rfl rfl rfl ?_
          refine WD.p (tb := tb) rfl rfl rfl rfl rfl ?_
          refine WD.p (tb := tb) rfl rfl rfl rfl rfl ?_
          refine WD.p (tb := tb) rfl rfl rfl rfl rfl ?_
          refine WD.p (tb := tb) rfl rfl rfl rfl rfl ?_
          refine WD.no rfl rfl rfl rfl ?_
          refine WD.no1 rfl rfl rfl rfl ?_
          refine WD.no rfl rfl rfl rfl ?_
          refine WD.p (tb := tb) rfl rfl rfl rfl rfl ?_
          refine WD.p (tb := tb) rfl rfl rfl rfl rfl ?_
          refine WD.no rfl rfl rfl rfl ?_
          refine WD.no rfl rfl rfl rfl ?_
          refine WD.no rfl rfl rfl rfl ?_
          refine WD.no1 rfl rfl rfl rfl ?_
          refine WD.no rfl rfl rfl rfl ?_
          refine WD.no1 rfl rfl rfl rfl ?_
          refine WD.no rfl rfl rfl rfl ?_
          refine WD.no rfl rfl rfl rfl ?_
          refine WD.no rfl rfl rfl rfl ?_
          refine WD.no1 rfl rfl rfl rfl ?_
          refine WD.no rfl rfl rfl rfl ?_
          refine WD.no rfl rfl rfl rfl ?_
          refine WD.p (tb := tb) rfl rfl rfl rfl rfl ?_
          refine WD.p (tb := tb) rfl rfl rfl rfl rfl ?_
          refine WD.fin rfl ?_
          refine WS.pcondF rfl rfl ?_
          refine WS.pskip rfl ?_
          refine WS.pregion rfl ?_
          refine WS.po (tb := tb) rfl rfl rfl rfl rfl ?_
          refine WS.poW (tb := tb) rfl rfl rfl rfl rfl (by simp only [lo]; omega) (by simp only [Am.hi]; omega) ?_
          refine WS.po (tb := tb) rfl rfl rfl rfl rfl ?_
          refine WS.pend rfl ?_
          refine WS.nil ?_
          exact ⟨k + 1, by omega, by omega, (SeenBy.seen (v := [0,1,2,3,4,5]) ⟨rfl, rfl, (by simp [viewP, okL, okV, mapL, mapV, mem_get, mapL_cellsR, okL_cellsR]), (by first | exact rfl | exact own2_dist rfl rfl), (by simp only [slotsP, okV, okL, mapV, mapL, and_true, true_and, List.length_cons, List.length_nil, List.length_append, List.length_map, Nat.reduceAdd, Nat.reduceLT]; repeat' (first | exact rfl | refine ⟨?_, ?_⟩ | exact lk_m rfl (hmp _ rfl) | exact hok _ (Nat.le_of_ble_eq_true rfl) | exact lk_i rfl (by omega) | exact lk_sl rfl (by omega) (by omega) (by omega) | decide | omega))⟩)⟩
        · refine WS.pseq rfl ?_
          refine WS.pseq rfl ?_
          refine WS.pregion rfl ?_
          refine WS.po (tb := tb) rfl rfl rfl rfl rfl ?_
          refine WS.po (tb := tb) rfl rfl rfl rfl rfl ?_
          refine WS.poDT (tb := tb) rfl rfl rfl rfl rfl (by omega) ?_
          refine WS.pend rfl ?_
          refine WS.pcondT rfl rfl ?_
          refine WS.pskip rfl ?_
          refine WS.pseq rfl ?_
          refine WS.pblock rfl ?_
          refine WS.pseq rfl ?_
          refine WS.pregion rfl ?_
          refine WS.po (tb := tb) rfl rfl rfl rfl rfl ?_
          refine WS.poB (tb := tb) true rfl rfl rfl rfl rfl rfl ?_
          refine WS.po (tb := tb) rfl rfl rfl rfl rfl ?_
          refine WS.po (tb := tb) rfl rfl rfl rfl rfl ?_
          refine WS.poP (tb := tb) rfl rfl rfl rfl rfl (by simp only [List.getElem_toArray, List.getElem_cons_zero, List.getElem_cons_succ, Nat.zero_add, Nat.add_zero, Nat.reduceAdd, Nat.reduceMul, Nat.add_assoc, Nat.mul_one, Int.toNat_natCast, Int.reduceToNat, Int.toNat_zero, Nat.zero_mul]; exact rfl) ?_
          refine WS.po (tb := tb) rfl rfl rfl rfl rfl ?_
          refine WS.poDT (tb := tb) rfl rfl rfl rfl rfl (by omega) ?_
          refine WS.po (tb := tb) rfl rfl rfl rfl rfl ?_
          refine WS.po (tb := tb) rfl rfl rfl rfl rfl ?_
          refine WS.po (tb := tb) rfl rfl rfl rfl rfl ?_
          refine WS.poP (tb := tb) rfl rfl rfl rfl rfl (by simp only [List.getElem_toArray, List.getElem_cons_zero, List.getElem_cons_succ, Nat.zero_add, Nat.add_zero, Nat.reduceAdd, Nat.reduceMul, Nat.add_assoc, Nat.mul_one, Int.toNat_natCast, Int.reduceToNat, Int.toNat_zero, Nat.zero_mul]; exact rfl) ?_
          refine WS.po (tb := tb) rfl rfl rfl rfl rfl ?_
          refine WS.poW (tb := tb) rfl rfl rfl rfl rfl (by simp only [lo]; omega) (by simp only [Am.hi]; omega) ?_
          refine WS.poP (tb := tb) rfl rfl rfl rfl rfl (by simp only [List.getElem_toArray, List.getElem_cons_zero, List.getElem_cons_succ, Nat.zero_add, Nat.add_zero, Nat.reduceAdd, Nat.reduceMul, Nat.add_assoc, Nat.mul_one, Int.toNat_natCast, Int.reduceToNat, Int.toNat_zero, Nat.zero_mul]; exact rfl) ?_
          refine WS.po (tb := tb) rfl rfl rfl rfl rfl ?_
          refine WS.poDF (tb := tb) rfl rfl rfl rfl rfl (by omega) ?_
          refine WS.po (tb := tb) rfl rfl rfl rfl rfl ?_
          refine WS.po (tb := tb) rfl rfl rfl rfl rfl ?_
          refine WS.pend rfl ?_
          refine WS.pseq rfl ?_
          refine WS.pdraw (tb := tb) (by kernel_rfl) rfl (by kernel_rfl) (by kernel_rfl) ?_
          refine WD.p (tb := tb) rfl rfl rfl rfl rfl ?_
          refine WD.pB (tb := tb) true rfl rfl rfl rfl rfl rfl ?_
          refine WD.p (tb := tb) rfl rfl rfl rfl rfl ?_
          refine WD.p (tb := tb) rfl rfl rfl rfl rfl ?_
          refine WD.p (tb := tb) rfl rfl rfl rfl rfl ?_
          refine WD.pP (tb := tb) rfl rfl rfl rfl (evP_index rfl rfl rfl rfl rfl rfl (by omega)) (by simp only [Nat.zero_add, Nat.add_zero, Nat.reduceAdd, Nat.reduceMul, Nat.add_assoc, Nat.mul_one]; exact rfl) ?_
          refine WD.r (tb := tb) rfl rfl rfl rfl (evQ_R rfl (evR_load rfl rfl rfl rfl (cellsI_get hu))) ?_
          refine WD.p (tb := tb) rfl rfl rfl rfl rfl ?_
          refine WD.p (tb := tb) rfl rfl rfl rfl rfl ?_
          refine WD.pP (tb := tb) rfl rfl rfl rfl (evP_index rfl rfl rfl rfl rfl rfl (by omega)) (by simp only [Nat.zero_add, Nat.add_zero, Nat.reduceAdd, Nat.reduceMul, Nat.add_assoc, Nat.mul_one]; exact rfl) ?_
          refine WD.r (tb := tb) rfl rfl rfl rfl (evQ_R rfl (evR_load rfl rfl rfl rfl (cellsI_get hw))) ?_
          refine WD.pNF (tb := tb) rfl rfl rfl rfl rfl (by omega) ?_
          refine WD.p (tb := tb) rfl rfl rfl rfl rfl ?_
          refine WD.p (tb := tb) rfl rfl rfl rfl rfl ?_
          refine WD.p (tb := tb) rfl rfl rfl rfl rfl ?_
          refine WD.p (tb := tb) rfl rfl rfl rfl rfl ?_
          refine WD.no rfl rfl rfl rfl ?_
          refine WD.no1 rfl rfl rfl rfl ?_
          refine WD.no rfl rfl rfl rfl ?_
          refine WD.p (tb := tb) rfl rfl rfl rfl rfl ?_
          refine WD.p (tb := tb) rfl rfl rfl rfl rfl ?_
          refine WD.no rfl rfl rfl rfl ?_
          refine WD.no rfl rfl rfl rfl ?_
          refine WD.no rfl rfl rfl rfl ?_
          refine WD.no1 rfl rfl rfl rfl ?_
          refine WD.no rfl rfl rfl rfl ?_
          refine WD.p (tb := tb) rfl rfl rfl rfl rfl ?_
          refine WD.p (tb := tb) rfl rfl rfl rfl rfl ?_
          refine WD.p (tb := tb) rfl rfl rfl rfl rfl ?_
          refine WD.p (tb := tb) rfl rfl rfl rfl rfl ?_
          refine WD.p (tb := tb) rfl rfl rfl rfl rfl ?_
          refine WD.no rfl rfl rfl rfl ?_
          refine WD.no1 rfl rfl rfl rfl ?_
          refine WD.no rfl rfl rfl rfl ?_
          refine WD.p (tb := tb) rfl rfl rfl rfl rfl ?_
          refine WD.p (tb := tb) rfl rfl rfl rfl rfl ?_
          refine WD.no rfl rfl rfl rfl ?_
          refine WD.no rfl rfl rfl rfl ?_
          refine WD.no rfl rfl rfl rfl ?_
          refine WD.no1 rfl rfl rfl rfl ?_
          refine WD.no rfl rfl rfl rfl ?_
          refine WD.no1 rfl rfl rfl rfl ?_
          refine WD.no rfl rfl rfl rfl ?_
          refine WD.no rfl rfl rfl rfl ?_
          refine WD.no rfl rfl rfl rfl ?_
          refine WD.no1 rfl rfl rfl rfl ?_
          refine WD.no rfl rfl rfl rfl ?_
          refine WD.no rfl rfl rfl rfl ?_
          refine WD.p (tb := tb) rfl rfl rfl rfl rfl ?_
          refine WD.p (tb := tb) rfl rfl rfl rfl rfl ?_
          refine WD.fin rfl ?_
          refine WS.pcondF rfl rfl ?_
          refine WS.pskip rfl ?_
          refine WS.pregion rfl ?_
          refine WS.po (tb := tb) rfl rfl rfl rfl rfl ?_
          refine WS.poW (tb := tb) rfl rfl rfl rfl rfl (by simp only [lo]; omega) (by simp only [Am.hi]; omega) ?_
          refine WS.po (tb := tb) rfl rfl rfl rfl rfl ?_
          refine WS.pend rfl ?_
          refine WS.nil ?_
          exact ⟨k + 1, by omega, by omega, (SeenBy.seen (v := [0,1,2,3,4,5]) ⟨rfl, rfl, (by simp [viewP, okL, okV, mapL, mapV, mem_get, mapL_cellsR, okL_cellsR]), (by first | exact rfl | exact own2_dist rfl rfl), (by simp only [slotsP, okV, okL, mapV, mapL, and_true, true_and, List.length_cons, List.length_nil, List.length_append, List.length_map, Nat.reduceAdd, Nat.reduceLT]; repeat' (first | exact rfl | refine ⟨?_, ?_⟩ | exact lk_m rfl (hmp _ rfl) | exact hok _ (Nat.le_of_ble_eq_true rfl) | exact lk_i rfl (by omega) | exact lk_sl rfl (by omega) (by omega) (by omega) | decide | omega))⟩)⟩
    · refine WS.pseq rfl ?_
      refine WS.pseq rfl ?_
      refine WS.pregion rfl ?_
      refine WS.po (tb := tb) rfl rfl rfl rfl rfl ?_
      refine WS.po (tb := tb) rfl rfl rfl rfl rfl ?_
      refine WS.poDF (tb := tb) rfl rfl rfl rfl rfl (by omega) ?_
      refine WS.pend rfl ?_
      refine WS.pcondF rfl rfl ?_
      refine WS.pout rfl rfl ?_
      exact ⟨rfl, (), trivial, (SeenBy.seen (v := [0,1,2,3,4,5]) ⟨rfl, rfl, (by simp [viewP, okL, okV, mapL, mapV, mem_get, mapL_cellsR, okL_cellsR]), (by first | exact rfl | exact own2_dist rfl rfl), (by simp only [slotsP, okV, okL, mapV, mapL, and_true, true_and, List.length_cons, List.length_nil, List.length_append, List.length_map, Nat.reduceAdd, Nat.reduceLT]; repeat' (first | exact rfl | refine ⟨?_, ?_⟩ | exact lk_m rfl (hmp _ rfl) | exact hok _ (Nat.le_of_ble_eq_true rfl) | exact lk_i rfl (by omega) | exact lk_sl rfl (by omega) (by omega) (by omega) | decide | omega))⟩)⟩
  · rintro _ -
    have RR := refRight_walk cap a n (by omega) (by omega)
    rw [rgt, decide_eq_true (by omega)] at RR
    refine WS.pseq rfl ?_
    refine WS.pregion rfl ?_
    refine WS.po (tb := tb) rfl rfl rfl rfl rfl ?_
    refine WS.poB (tb := tb) true rfl rfl rfl rfl rfl rfl ?_
    refine WS.po (tb := tb) rfl rfl rfl rfl rfl ?_
    refine WS.po (tb := tb) rfl rfl rfl rfl rfl ?_
    refine WS.poP (tb := tb) rfl rfl rfl rfl rfl (by simp only [List.getElem_toArray, List.getElem_cons_zero, List.getElem_cons_succ, Nat.zero_add, Nat.add_zero, Nat.reduceAdd, Nat.reduceMul, Nat.add_assoc, Nat.mul_one, Int.toNat_natCast, Int.reduceToNat, Int.toNat_zero, Nat.zero_mul]; exact rfl) ?_
    refine WS.po (tb := tb) rfl rfl rfl rfl rfl ?_
    refine WS.poP (tb := tb) rfl rfl rfl rfl rfl (by simp only [List.getElem_toArray, List.getElem_cons_zero, List.getElem_cons_succ, Nat.zero_add, Nat.add_zero, Nat.reduceAdd, Nat.reduceMul, Nat.add_assoc, Nat.mul_one, Int.toNat_natCast, Int.reduceToNat, Int.toNat_zero, Nat.zero_mul]; exact rfl) ?_
    refine WS.po (tb := tb) rfl rfl rfl rfl rfl ?_
    refine WS.pcallM (tb := tb) [] RR rfl rfl rfl rfl rfl (by (try simp only [mapL, mapV, List.getD_cons_zero, List.getD_cons_succ]); exact rfl) (by simp [okL, okV]; fail_if_success exfalso) rfl (by simp [embP, okL, okV, mapL, mapV, mem_next, mem_get, mem_ro, mapL_cellsR, okL_cellsR]; fail_if_success exfalso) rfl ?_; rintro _ _ ⟨rfl, rfl⟩ -; simp only [plugL, setsL, newsL, isOwn, ownB, over, mapL, mapV, List.getD_cons_zero, List.getD_cons_succ, List.set_cons_zero, List.set_cons_succ, List.length_cons, List.length_nil, Nat.reduceAdd, Nat.reduceLT, Nat.zero_add, if_true, if_false, Nat.reduceSub, reduceIte, List.map_cons, List.map_nil, List.append_nil, List.cons_append, List.nil_append, mapL_cellsR, Nat.lt_irrefl, Nat.not_lt_zero, Nat.zero_lt_succ, Nat.lt_add_one]
    refine WS.poB (tb := tb) false rfl rfl rfl rfl rfl rfl ?_
    refine WS.po (tb := tb) rfl rfl rfl rfl rfl ?_
    refine WS.pend rfl ?_
    refine WS.pcondF rfl rfl ?_
    refine WS.pskip rfl ?_
    refine WS.pregion rfl ?_
    refine WS.po (tb := tb) rfl rfl rfl rfl rfl ?_
    refine WS.poW (tb := tb) rfl rfl rfl rfl rfl (by simp only [lo]; omega) (by simp only [Am.hi]; omega) ?_
    refine WS.po (tb := tb) rfl rfl rfl rfl rfl ?_
    refine WS.pend rfl ?_
    refine WS.nil ?_
    exact ⟨⟨i + 1, (putN t a n (fun _ : Nat => -1)), true⟩, ⟨by dsimp only; omega, hlenu, hbu, by dsimp only; omega⟩, by dsimp only; omega, (SeenBy.seen (v := [0,1,2]) ⟨rfl, rfl, (by simp [viewP, okL, okV, mapL, mapV, mem_get, mapL_cellsR, okL_cellsR, SSk, MMk]), (by first | exact rfl | exact own2_dist rfl rfl), (by simp only [slotsP, okV, okL, mapV, mapL, and_true, true_and, List.length_cons, List.length_nil, List.length_append, List.length_map, Nat.reduceAdd, Nat.reduceLT, SSk, MMk]; repeat' (first | exact rfl | refine ⟨?_, ?_⟩ | exact lk_m rfl (hmp _ rfl) | exact hok _ (Nat.le_of_ble_eq_true rfl) | exact lk_i rfl (by omega) | exact lk_sl rfl (by omega) (by omega) (by omega) | decide | omega))⟩)⟩
end Go.Proofs.Ythhmapgolnkjcaa.Am

