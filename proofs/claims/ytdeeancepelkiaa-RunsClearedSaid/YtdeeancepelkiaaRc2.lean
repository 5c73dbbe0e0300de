/- RunsCleared answers true for any arguments, in every world. Conditions: the row lies in memory. -/
import Derived.Test.YtdeeancepelkiaaRc1
namespace Go.Proofs.Ytdeeancepelkiaa.Am
open Go.Proofs
set_option maxRecDepth 1000000
set_option maxHeartbeats 4000000
set_option linter.unusedSimpArgs false
set_option linter.unusedVariables false
def MC (l : List Act) (cap : Nat) (s : TS) : List (Option Blk) := [some ⟨cellsR rwAct l, 32, false⟩, some ⟨cellsR rwPl s.ps, 93, true⟩, some ⟨[.sl (some (1,0)) s.ps.length s.ps.length false, .i .u32 s.fr, .i .i64 s.n], 76, true⟩,
  some ⟨[.p (some (2,0)), .i .u32 s.T.id, .i .i64 s.n], 95, true⟩, some ⟨[.i .i64 cap, .i .i64 (512 : Nat), .p (some (2,0)), .p (some (3,0))], 63, true⟩]
def pgO (o : Option Int) : Int := match o with
  | none => -1
  | some p => p
def tabL (cap : Nat) (L : List Rn) (i : Nat) : List Int := mkl cap fun j => if j < i then pgO (getR j L) else 0
theorem getR_pos {cap : Int} {L : List Rn} (h : NF cap L) {k p : Int} (hg : getR k L = some p) : 0 ≤ p := by
  obtain ⟨r, hr, c1, c2, c3⟩ := (getR_pg h k p).1 hg
  have := (h.rg r hr).c0
  omega
theorem getR_ext {cap : Int} {L M : List Rn} (hL : NF cap L) (hM : NF cap M) {k : Int} (h : ∀ p, PG L k p ↔ PG M k p) : getR k L = getR k M := by
  cases hl : getR k L with
  | some p => exact ((getR_pg hM k p).2 ((h p).1 ((getR_pg hL k p).1 hl))).symm
  | none =>
    cases hm : getR k M with
    | none => rfl
    | some p => have := (getR_pg hL k p).2 ((h p).2 ((getR_pg hM k p).1 hm)); rw [hl] at this; cases this
theorem cleared_main (cap : Nat) (l : List Act) (a : Option (Nat × Nat)) (c : Nat) (lba n : Int) (h1 : 1 ≤ cap) (h2 : cap ≤ 512) (hl : l.length ≤ 30) (hr : rgt cap lba n = true) (ha : a = none ∨ a = some (0, 0)) (ha0 : 0 < l.length → a = some (0, 0)) :
    FM Try.prog 5 [.i .i64 cap, .sl a l.length c false, .i .i64 lba, .i .i64 n] [some ⟨cellsR rwAct l, 32, false⟩] (fun v _ => v = .b true) := by
  have hok : ∀ n, 0 < n → okV n (.sl a l.length c false) := fun n hn => by
    rcases ha with rfl | rfl
    · trivial
    · exact hn
  have hmp : ∀ s : Nat → Nat, s 0 = 0 → mapV s (.sl a l.length c false) = .sl a l.length c false := fun s hs => by
    rcases ha with rfl | rfl
    · rfl
    · simp [mapV, hs]
  have hr' := hr
  simp only [rgt, decide_eq_true_eq] at hr'
  obtain ⟨r1, r2, r3, r4⟩ := hr'
  have R := refRight_walk cap lba n (by omega) (by omega)
  rw [hr] at R
  refine FM.pbody (tb := tb) (fn := Try.f5) rfl rfl ?_
  simp only [argS, Nat.reduceAdd, List.length_cons, List.length_nil]
  refine WS.pseq rfl ?_
  refine WS.pregion rfl ?_
  refine WS.po (tb := tb) rfl rfl rfl rfl rfl ?_
  refine WS.pend rfl ?_
  refine WS.pseq rfl ?_
  refine WS.pseq rfl ?_
  refine WS.pregion rfl ?_
  refine WS.pcallM (tb := tb) [] awake_fm rfl rfl rfl rfl rfl (by (try simp only [mapL, mapV, List.getD_cons_zero, List.getD_cons_succ]); exact rfl) (by simp [okL, okV, rmM, tsM, trM, arM]; fail_if_success exfalso) rfl (by simp [embP, okL, okV, mapL, mapV, mem_next, mem_get, mem_ro, mapL_cellsR, okL_cellsR, rmM, tsM, trM, arM]; fail_if_success exfalso) rfl ?_; rintro _ _ ⟨rfl, rfl⟩ -; simp only [plugL, setsL, newsL, isOwn, ownB, over, mapL, mapV, List.getD_cons_zero, List.getD_cons_succ, List.set_cons_zero, List.set_cons_succ, List.length_cons, List.length_nil, Nat.reduceAdd, Nat.reduceLT, Nat.zero_add, if_true, if_false, Nat.reduceSub, reduceIte, List.map_cons, List.map_nil, List.append_nil, List.cons_append, List.nil_append, mapL_cellsR, Nat.lt_irrefl, Nat.not_lt_zero, Nat.zero_lt_succ, Nat.lt_add_one, rmM, tsM, trM, arM]
  refine WS.poB (tb := tb) false rfl rfl rfl rfl rfl rfl ?_
  refine WS.pend rfl ?_
  refine WS.pcondF rfl rfl ?_
  refine WS.pskip rfl ?_
  refine WS.pseq rfl ?_
  refine WS.pregion rfl ?_
  refine WS.po (tb := tb) rfl rfl rfl rfl rfl ?_
  refine WS.pcallM (tb := tb) [] (rnew_ok cap 512 h1 h2 (by omega) (by omega)) rfl rfl rfl rfl rfl (by (try simp only [mapL, mapV, List.getD_cons_zero, List.getD_cons_succ]); exact rfl) (by simp [okL, okV, rmM, tsM, trM, arM]; fail_if_success exfalso) rfl (by simp [embP, okL, okV, mapL, mapV, mem_next, mem_get, mem_ro, mapL_cellsR, okL_cellsR, rmM, tsM, trM, arM]; fail_if_success exfalso) rfl ?_; rintro _ _ ⟨rfl, rfl⟩ -; simp only [plugL, setsL, newsL, isOwn, ownB, over, mapL, mapV, List.getD_cons_zero, List.getD_cons_succ, List.set_cons_zero, List.set_cons_succ, List.length_cons, List.length_nil, Nat.reduceAdd, Nat.reduceLT, Nat.zero_add, if_true, if_false, Nat.reduceSub, reduceIte, List.map_cons, List.map_nil, List.append_nil, List.cons_append, List.nil_append, mapL_cellsR, Nat.lt_irrefl, Nat.not_lt_zero, Nat.zero_lt_succ, Nat.lt_add_one, rmM, tsM, trM, arM]
  refine WS.po (tb := tb) rfl rfl rfl rfl rfl ?_
  refine WS.po (tb := tb) rfl rfl rfl rfl rfl ?_
  refine WS.po (tb := tb) rfl rfl rfl rfl rfl ?_
  refine WS.po (tb := tb) rfl rfl rfl rfl rfl ?_
  refine WS.po (tb := tb) rfl rfl rfl rfl rfl ?_
  refine WS.pend rfl ?_
  refine WS.pseq rfl ?_
  refine WS.pseq rfl ?_
  refine WS.pregion rfl ?_
  refine WS.po (tb := tb) rfl rfl rfl rfl rfl ?_
  refine WS.poB (tb := tb) false rfl rfl rfl rfl rfl rfl ?_
  refine WS.po (tb := tb) rfl rfl rfl rfl rfl ?_
  refine WS.po (tb := tb) rfl rfl rfl rfl rfl ?_
  refine WS.po (tb := tb) rfl rfl rfl rfl rfl ?_
  refine WS.poDF (tb := tb) rfl rfl rfl rfl rfl (by omega) ?_
  refine WS.po (tb := tb) rfl rfl rfl rfl rfl ?_
  refine WS.po (tb := tb) rfl rfl rfl rfl rfl ?_
  refine WS.po (tb := tb) rfl rfl rfl rfl rfl ?_
  refine WS.po (tb := tb) rfl rfl rfl rfl rfl ?_
  refine WS.po (tb := tb) rfl rfl rfl rfl rfl ?_
  refine WS.pcallM (tb := tb) [] R rfl rfl rfl rfl rfl (by (try simp only [mapL, mapV, List.getD_cons_zero, List.getD_cons_succ]); exact rfl) (by simp [okL, okV, rmM, tsM, trM, arM]; fail_if_success exfalso) rfl (by simp [embP, okL, okV, mapL, mapV, mem_next, mem_get, mem_ro, mapL_cellsR, okL_cellsR, rmM, tsM, trM, arM]; fail_if_success exfalso) rfl ?_; rintro _ _ ⟨rfl, rfl⟩ -; simp only [plugL, setsL, newsL, isOwn, ownB, over, mapL, mapV, List.getD_cons_zero, List.getD_cons_succ, List.set_cons_zero, List.set_cons_succ, List.length_cons, List.length_nil, Nat.reduceAdd, Nat.reduceLT, Nat.zero_add, if_true, if_false, Nat.reduceSub, reduceIte, List.map_cons, List.map_nil, List.append_nil, List.cons_append, List.nil_append, mapL_cellsR, Nat.lt_irrefl, Nat.not_lt_zero, Nat.zero_lt_succ, Nat.lt_add_one, rmM, tsM, trM, arM]
  refine WS.poB (tb := tb) false rfl rfl rfl rfl rfl rfl ?_
  refine WS.po (tb := tb) rfl rfl rfl rfl rfl ?_
  refine WS.pend rfl ?_
  refine WS.pcondF rfl rfl ?_
  refine WS.pskip rfl ?_
  refine WS.pseq rfl ?_
  refine WS.pseq rfl ?_
  refine WS.pregion rfl ?_
  refine WS.po (tb := tb) rfl rfl rfl rfl rfl ?_
  refine WS.pend rfl ?_
  refine WS.pblock rfl ?_
  refine WS.ploopI (σ := Nat × TS) (τ := TS) (fun x => [(0, .i .i64 cap), (1, .sl a l.length c false), (2, .i .i64 lba), (3, .i .i64 n), (9, .p (some (4,0))), (11, .i .i64 x.1)]) (fun x => MC l cap x.2) (fun x => x.1 ≤ l.length ∧ ROk cap 512 x.2) (fun x => l.length - x.1)
    (fun _ => [(0, .i .i64 cap), (2, .i .i64 lba), (3, .i .i64 n), (9, .p (some (4,0)))]) (fun x => MC l cap x) (fun x => ROk cap 512 x) 0 [0,1,2,3,4] (0, ⟨iniP 512 512, 1, .lf⟩) rfl ⟨Nat.zero_le _, newR_ok cap⟩ ⟨rfl, rfl, (by simp [viewP, okL, okV, mapL, mapV, mem_get, mapL_cellsR, okL_cellsR, MC, TS.n, ids_lf, id_lf]), (by first | exact rfl | exact own2_dist rfl rfl), (by simp only [slotsP, okV, okL, mapV, mapL, and_true, true_and, List.length_cons, List.length_nil, List.length_append, List.length_map, Nat.reduceAdd, Nat.reduceLT, MC, TS.n, ids_lf, id_lf]; repeat' (first | exact rfl | refine ⟨?_, ?_⟩ | exact lk_m rfl (hmp _ rfl) | exact lk_m rfl (hmp2 _ rfl) | exact hok _ (Nat.le_of_ble_eq_true rfl) | exact hok2 _ (Nat.le_of_ble_eq_true rfl) | exact lk_i rfl (by omega) | exact lk_sl rfl (by omega) (by omega) (by omega) | decide | omega))⟩ rfl ?_ ?_
  · rintro ⟨i, s⟩ ⟨hi, H⟩
    dsimp only at hi H
    simp only [MC]
    by_cases h : i < l.length
    · obtain rfl := ha0 (by omega)
      obtain ⟨x, hx⟩ : ∃ x, l[i]? = some x := ⟨_, List.getElem?_eq_getElem h⟩
      have O := one_walk x H h2
      have H' := (oneT_ok x H h2).1
      generalize oneT cap s x = q at *
      refine WS.pseq rfl ?_
      refine WS.pseq rfl ?_
      refine WS.pregion rfl ?_
      refine WS.po (tb := tb) rfl rfl rfl rfl rfl ?_
      refine WS.po (tb := tb) rfl rfl rfl rfl rfl ?_
      refine WS.po (tb := tb) rfl rfl rfl rfl rfl ?_
      refine WS.poDT (tb := tb) rfl rfl rfl rfl rfl (by omega) ?_
      refine WS.pend rfl ?_
      refine WS.pcondT rfl rfl ?_
      refine WS.pskip rfl ?_
      refine WS.pseq rfl ?_
      refine WS.pblock rfl ?_
      refine WS.pregion rfl ?_
      refine WS.po (tb := tb) rfl rfl rfl rfl rfl ?_
      refine WS.po (tb := tb) rfl rfl rfl rfl rfl ?_
      refine WS.po (tb := tb) rfl rfl rfl rfl rfl ?_
      refine WS.poP (tb := tb) rfl rfl rfl rfl (step_P (evP_index rfl rfl rfl rfl rfl rfl (by omega))) (by simp only [Nat.zero_add, Nat.add_zero, Nat.reduceAdd, Nat.reduceMul, Nat.add_assoc, Nat.mul_one]; exact rfl) ?_
      refine WS.poA (tb := tb) rfl rfl rfl rfl (step_R rfl (evR_loads rfl rfl rfl rfl rfl (by exact (cellsR_part0 (R := rwAct) hx (by exact Nat.le_of_ble_eq_true rfl))) (by exact rfl))) (by simp only [List.drop_zero, List.drop_succ_cons, List.take_succ_cons, List.take_zero, rwPl, rwRn, rwVw, rwAct]; exact rfl) ?_
      refine WS.pcallM (tb := tb) [1,2,3,4] O rfl rfl rfl rfl rfl (by (try simp only [mapL, mapV, List.getD_cons_zero, List.getD_cons_succ]); exact rfl) (by simp [okL, okV, rmM, tsM, trM, arM]; fail_if_success exfalso) rfl (by simp [embP, okL, okV, mapL, mapV, mem_next, mem_get, mem_ro, mapL_cellsR, okL_cellsR, rmM, tsM, trM, arM]; fail_if_success exfalso) rfl ?_; rintro _ _ ⟨rfl, rfl⟩ -; simp only [plugL, setsL, newsL, isOwn, ownB, over, mapL, mapV, List.getD_cons_zero, List.getD_cons_succ, List.set_cons_zero, List.set_cons_succ, List.length_cons, List.length_nil, Nat.reduceAdd, Nat.reduceLT, Nat.zero_add, if_true, if_false, Nat.reduceSub, reduceIte, List.map_cons, List.map_nil, List.append_nil, List.cons_append, List.nil_append, mapL_cellsR, Nat.lt_irrefl, Nat.not_lt_zero, Nat.zero_lt_succ, Nat.lt_add_one, rmM, tsM, trM, arM]
      refine WS.pend rfl ?_
      refine WS.pregion rfl ?_
      refine WS.po (tb := tb) rfl rfl rfl rfl rfl ?_
      refine WS.poW (tb := tb) rfl rfl rfl rfl rfl (by simp only [lo]; omega) (by simp only [Am.hi]; omega) ?_
      refine WS.po (tb := tb) rfl rfl rfl rfl rfl ?_
      refine WS.pend rfl ?_
      refine WS.nil ?_
      exact ⟨(i + 1, q), ⟨h, H'⟩, by omega, (SeenBy.seen (v := [0,1,2,3,4]) ⟨rfl, rfl, (by simp [viewP, okL, okV, mapL, mapV, mem_get, mapL_cellsR, okL_cellsR, MC]), (by first | exact rfl | exact own2_dist rfl rfl), (by simp only [slotsP, okV, okL, mapV, mapL, and_true, true_and, List.length_cons, List.length_nil, List.length_append, List.length_map, Nat.reduceAdd, Nat.reduceLT, MC]; repeat' (first | exact rfl | refine ⟨?_, ?_⟩ | exact lk_m rfl (hmp _ rfl) | exact lk_m rfl (hmp2 _ rfl) | exact hok _ (Nat.le_of_ble_eq_true rfl) | exact hok2 _ (Nat.le_of_ble_eq_true rfl) | exact lk_i rfl (by omega) | exact lk_sl rfl (by omega) (by omega) (by omega) | decide | omega))⟩)⟩
    · obtain rfl : i = l.length := by omega
      refine WS.pseq rfl ?_
      refine WS.pseq rfl ?_
      refine WS.pregion rfl ?_
      refine WS.po (tb := tb) rfl rfl rfl rfl rfl ?_
      refine WS.po (tb := tb) rfl rfl rfl rfl rfl ?_
      refine WS.po (tb := tb) rfl rfl rfl rfl rfl ?_
      refine WS.poDF (tb := tb) rfl rfl rfl rfl rfl (by omega) ?_
      refine WS.pend rfl ?_
      refine WS.pcondF rfl rfl ?_
      refine WS.pout rfl rfl ?_
      exact ⟨rfl, s, H, (SeenBy.seen (v := [0,1,2,3,4]) ⟨rfl, rfl, (by simp [viewP, okL, okV, mapL, mapV, mem_get, mapL_cellsR, okL_cellsR, MC]), (by first | exact rfl | exact own2_dist rfl rfl), (by simp only [slotsP, okV, okL, mapV, mapL, and_true, true_and, List.length_cons, List.length_nil, List.length_append, List.length_map, Nat.reduceAdd, Nat.reduceLT, MC]; repeat' (first | exact rfl | refine ⟨?_, ?_⟩ | exact lk_m rfl (hmp _ rfl) | exact lk_m rfl (hmp2 _ rfl) | exact hok _ (Nat.le_of_ble_eq_true rfl) | exact hok2 _ (Nat.le_of_ble_eq_true rfl) | exact lk_i rfl (by omega) | exact lk_sl rfl (by omega) (by omega) (by omega) | decide | omega))⟩)⟩
  · rintro s H
    simp only [MC]
    refine WS.pseq rfl ?_
    refine WS.pregion rfl ?_
    refine WS.po (tb := tb) rfl rfl rfl rfl rfl ?_
    refine WS.po (tb := tb) rfl rfl rfl rfl (step_H rfl rfl (evH_make (m := cap) (n := cap) rfl rfl rfl rfl rfl rfl rfl rfl (by omega) (by omega) (by omega) (Nat.le_refl _) (by omega) (by omega))) ?_; (try rw [upd_mem _ rfl]); (try rw [new_mem]); (try simp only [List.set_cons_zero, List.set_cons_succ, List.cons_append, List.nil_append, mem_next, List.length_cons, List.length_nil, Nat.zero_add, Nat.reduceAdd, List.drop_zero, vcells, cellsI_app1, cellsB_app1, cellsI_cons, repsI, repsB, Pl_app1, Pl_reps, Rn_app1, Rn_reps, Vw_app1, Vw_reps, Act_app1, Act_reps])
    refine WS.po (tb := tb) rfl rfl rfl rfl rfl ?_
    refine WS.pend rfl ?_
    refine WS.pseq rfl ?_
    refine WS.pseq rfl ?_
    refine WS.pregion rfl ?_
    refine WS.po (tb := tb) rfl rfl rfl rfl rfl ?_
    refine WS.pend rfl ?_
    refine WS.pblock rfl ?_
    have e0 : List.replicate cap (0 : Int) = tabL cap (runsT s.T) 0 := by rw [replicate_mkl]; exact mkl_ext fun j _ => by rw [if_neg (by omega)]
    rw [e0]
    refine WS.ploopI (σ := Nat) (τ := Unit) (fun i => [(0, .i .i64 cap), (2, .i .i64 lba), (3, .i .i64 n), (9, .p (some (4,0))), (12, .sl (some (5,0)) cap cap false), (13, .i .i64 i)]) (fun i => MC l cap s ++ [some ⟨cellsR (rwI .i64) (tabL cap (runsT s.T) i), 3, true⟩]) (fun i => i ≤ cap) (fun i => cap - i)
      (fun _ => [(0, .i .i64 cap), (2, .i .i64 lba), (3, .i .i64 n), (9, .p (some (4,0))), (12, .sl (some (5,0)) cap cap false)]) (fun _ => MC l cap s ++ [some ⟨cellsR (rwI .i64) (tabL cap (runsT s.T) cap), 3, true⟩]) (fun _ => True) 2 [0,1,2,3,4,5] 0 rfl (Nat.zero_le _) ⟨rfl, rfl, (by simp [viewP, okL, okV, mapL, mapV, mem_get, mapL_cellsR, okL_cellsR, MC]), (by first | exact rfl | exact own2_dist rfl rfl), (by simp only [slotsP, okV, okL, mapV, mapL, and_true, true_and, List.length_cons, List.length_nil, List.length_append, List.length_map, Nat.reduceAdd, Nat.reduceLT, MC]; repeat' (first | exact rfl | refine ⟨?_, ?_⟩ | exact lk_m rfl (hmp _ rfl) | exact lk_m rfl (hmp2 _ rfl) | exact hok _ (Nat.le_of_ble_eq_true rfl) | exact hok2 _ (Nat.le_of_ble_eq_true rfl) | exact lk_i rfl (by omega) | exact lk_sl rfl (by omega) (by omega) (by omega) | decide | omega))⟩ rfl ?_ ?_
    · intro i hi
      simp only [MC, List.cons_append, List.nil_append]
      have htl : (tabL cap (runsT s.T) i).length = cap := mkl_len
      by_cases h : i < cap
      · have G := rget_walk (i : Int) H h2 (by omega) (by omega) (by omega)
        have hs1 : setL (cellsR (rwI .i64) (tabL cap (runsT s.T) i)) i [.i .i64 (-1)] = cellsR (rwI .i64) ((tabL cap (runsT s.T) i).set i (-1)) := cellsI_set (by omega)
        have hst : ∀ v : Int, pgO (getR i (runsT s.T)) = v → (tabL cap (runsT s.T) i).set i v = tabL cap (runsT s.T) (i + 1) := fun v hv => mkl_set (by rw [if_pos (by omega), hv]) fun j _ hj => by
          by_cases h7 : j < i
          · rw [if_pos h7, if_pos (by omega)]
          · rw [if_neg h7, if_neg (by omega)]
        cases hg : getR (i : Int) (runsT s.T) with
        | none =>
          rw [hg] at G hst
          have e := hst (-1) rfl
          rw [e] at hs1
          refine WS.pseq rfl ?_
          refine WS.pseq rfl ?_
          refine WS.pregion rfl ?_
          refine WS.po (tb := tb) rfl rfl rfl rfl rfl ?_
          refine WS.po (tb := tb) rfl rfl rfl rfl rfl ?_
          refine WS.poDT (tb := tb) rfl rfl rfl rfl rfl (by omega) ?_
          refine WS.pend rfl ?_
          refine WS.pcondT rfl rfl ?_
          refine WS.pskip rfl ?_
          refine WS.pseq rfl ?_
          refine WS.pblock rfl ?_
          refine WS.pseq rfl ?_
          refine WS.pregion rfl ?_
          refine WS.po (tb := tb) rfl rfl rfl rfl rfl ?_
          refine WS.po (tb := tb) rfl rfl rfl rfl rfl ?_
          refine WS.pcallM (tb := tb) [1,2,3,4] G rfl rfl rfl rfl rfl (by (try simp only [mapL, mapV, List.getD_cons_zero, List.getD_cons_succ]); exact rfl) (by simp [okL, okV, rmR, tsR, trR, arR, oI]; fail_if_success exfalso) rfl (by simp [embP, okL, okV, mapL, mapV, mem_next, mem_get, mem_ro, mapL_cellsR, okL_cellsR, rmR, tsR, trR, arR, oI]; fail_if_success exfalso) rfl ?_; rintro _ _ ⟨rfl, rfl⟩ -; simp only [plugL, setsL, newsL, isOwn, ownB, over, mapL, mapV, List.getD_cons_zero, List.getD_cons_succ, List.set_cons_zero, List.set_cons_succ, List.length_cons, List.length_nil, Nat.reduceAdd, Nat.reduceLT, Nat.zero_add, if_true, if_false, Nat.reduceSub, reduceIte, List.map_cons, List.map_nil, List.append_nil, List.cons_append, List.nil_append, mapL_cellsR, Nat.lt_irrefl, Nat.not_lt_zero, Nat.zero_lt_succ, Nat.lt_add_one, rmR, tsR, trR, arR, oI]
          refine WS.po (tb := tb) rfl rfl rfl rfl rfl ?_
          refine WS.po (tb := tb) rfl rfl rfl rfl rfl ?_
          refine WS.po (tb := tb) rfl rfl rfl rfl rfl ?_
          refine WS.po (tb := tb) rfl rfl rfl rfl rfl ?_
          refine WS.po (tb := tb) rfl rfl rfl rfl rfl ?_
          refine WS.pend rfl ?_
          refine WS.pseq rfl ?_
          refine WS.pregion rfl ?_
          refine WS.po (tb := tb) rfl rfl rfl rfl rfl ?_
          refine WS.po (tb := tb) rfl rfl rfl rfl rfl ?_
          refine WS.poP (tb := tb) rfl rfl rfl rfl (step_P (evP_index rfl rfl rfl rfl rfl rfl (by omega))) (by simp only [Nat.zero_add, Nat.add_zero, Nat.reduceAdd, Nat.reduceMul, Nat.add_assoc, Nat.mul_one]; exact rfl) ?_
          refine WS.po0 (tb := tb) rfl rfl rfl rfl (step_H rfl rfl (evH_store rfl rfl rfl rfl rfl (Nat.zero_le _) rfl (by simp [vcells]) (by simp only [Pl_len, Rn_len, Vw_len, Act_len, vcells, List.length_cons, List.length_nil, cellsI_len, cellsB_len, List.length_set, List.length_replicate, List.length_append, List.length_map, List.length_take, List.length_drop, htl]; omega))) ?_; rw [upd_mem _ rfl]; simp only [vcells, List.set_cons_zero, List.set_cons_succ, hs1, rmR, tsR, trR, arR, oI]; (try simp only [setL, List.set_cons_zero, List.set_cons_succ])
          refine WS.pend rfl ?_
          refine WS.pseq rfl ?_
          refine WS.pregion rfl ?_
          refine WS.po (tb := tb) rfl rfl rfl rfl rfl ?_
          refine WS.pend rfl ?_
          refine WS.pcondF rfl rfl ?_
          refine WS.pskip rfl ?_
          refine WS.pregion rfl ?_
          refine WS.po (tb := tb) rfl rfl rfl rfl rfl ?_
          refine WS.poW (tb := tb) rfl rfl rfl rfl rfl (by simp only [lo]; omega) (by simp only [Am.hi]; omega) ?_
          refine WS.po (tb := tb) rfl rfl rfl rfl rfl ?_
          refine WS.pend rfl ?_
          refine WS.nil ?_
          exact ⟨i + 1, by omega, by omega, (SeenBy.seen (v := [0,1,2,3,4,5]) ⟨rfl, rfl, (by simp [viewP, okL, okV, mapL, mapV, mem_get, mapL_cellsR, okL_cellsR, MC]), (by first | exact rfl | exact own2_dist rfl rfl), (by simp only [slotsP, okV, okL, mapV, mapL, and_true, true_and, List.length_cons, List.length_nil, List.length_append, List.length_map, Nat.reduceAdd, Nat.reduceLT, MC]; repeat' (first | exact rfl | refine ⟨?_, ?_⟩ | exact lk_m rfl (hmp _ rfl) | exact lk_m rfl (hmp2 _ rfl) | exact hok _ (Nat.le_of_ble_eq_true rfl) | exact hok2 _ (Nat.le_of_ble_eq_true rfl) | exact lk_i rfl (by omega) | exact lk_sl rfl (by omega) (by omega) (by omega) | decide | omega))⟩)⟩
        | some p =>
          rw [hg] at G hst
          have hs2 : setL (cellsR (rwI .i64) ((tabL cap (runsT s.T) i).set i (-1))) i [.i .i64 p] = cellsR (rwI .i64) (((tabL cap (runsT s.T) i).set i (-1)).set i p) := cellsI_set (by simp [htl]; omega)
          rw [List.set_set, hst p rfl] at hs2
          refine WS.pseq rfl ?_
          refine WS.pseq rfl ?_
          refine WS.pregion rfl ?_
          refine WS.po (tb := tb) rfl rfl rfl rfl rfl ?_
          refine WS.po (tb := tb) rfl rfl rfl rfl rfl ?_
          refine WS.poDT (tb := tb) rfl rfl rfl rfl rfl (by omega) ?_
          refine WS.pend rfl ?_
          refine WS.pcondT rfl rfl ?_
          refine WS.pskip rfl ?_
          refine WS.pseq rfl ?_
          refine WS.pblock rfl ?_
          refine WS.pseq rfl ?_
          refine WS.pregion rfl ?_
          refine WS.po (tb := tb) rfl rfl rfl rfl rfl ?_
          refine WS.po (tb := tb) rfl rfl rfl rfl rfl ?_
          refine WS.pcallM (tb := tb) [1,2,3,4] G rfl rfl rfl rfl rfl (by (try simp only [mapL, mapV, List.getD_cons_zero, List.getD_cons_succ]); exact rfl) (by simp [okL, okV, rmR, tsR, trR, arR, oI]; fail_if_success exfalso) rfl (by simp [embP, okL, okV, mapL, mapV, mem_next, mem_get, mem_ro, mapL_cellsR, okL_cellsR, rmR, tsR, trR, arR, oI]; fail_if_success exfalso) rfl ?_; rintro _ _ ⟨rfl, rfl⟩ -; simp only [plugL, setsL, newsL, isOwn, ownB, over, mapL, mapV, List.getD_cons_zero, List.getD_cons_succ, List.set_cons_zero, List.set_cons_succ, List.length_cons, List.length_nil, Nat.reduceAdd, Nat.reduceLT, Nat.zero_add, if_true, if_false, Nat.reduceSub, reduceIte, List.map_cons, List.map_nil, List.append_nil, List.cons_append, List.nil_append, mapL_cellsR, Nat.lt_irrefl, Nat.not_lt_zero, Nat.zero_lt_succ, Nat.lt_add_one, rmR, tsR, trR, arR, oI]
          refine WS.po (tb := tb) rfl rfl rfl rfl rfl ?_
          refine WS.po (tb := tb) rfl rfl rfl rfl rfl ?_
          refine WS.po (tb := tb) rfl rfl rfl rfl rfl ?_
          refine WS.po (tb := tb) rfl rfl rfl rfl rfl ?_
          refine WS.po (tb := tb) rfl rfl rfl rfl rfl ?_
          refine WS.pend rfl ?_
          refine WS.pseq rfl ?_
          refine WS.pregion rfl ?_
          refine WS.po (tb := tb) rfl rfl rfl rfl rfl ?_
          refine WS.po (tb := tb) rfl rfl rfl rfl rfl ?_
          refine WS.poP (tb := tb) rfl rfl rfl rfl (step_P (evP_index rfl rfl rfl rfl rfl rfl (by omega))) (by simp only [Nat.zero_add, Nat.add_zero, Nat.reduceAdd, Nat.reduceMul, Nat.add_assoc, Nat.mul_one]; exact rfl) ?_
          refine WS.po0 (tb := tb) rfl rfl rfl rfl (step_H rfl rfl (evH_store rfl rfl rfl rfl rfl (Nat.zero_le _) rfl (by simp [vcells]) (by simp only [Pl_len, Rn_len, Vw_len, Act_len, vcells, List.length_cons, List.length_nil, cellsI_len, cellsB_len, List.length_set, List.length_replicate, List.length_append, List.length_map, List.length_take, List.length_drop, htl]; omega))) ?_; rw [upd_mem _ rfl]; simp only [vcells, List.set_cons_zero, List.set_cons_succ, hs1, hs2, rmR, tsR, trR, arR, oI]; (try simp only [setL, List.set_cons_zero, List.set_cons_succ])
          refine WS.pend rfl ?_
          refine WS.pseq rfl ?_
          refine WS.pregion rfl ?_
          refine WS.po (tb := tb) rfl rfl rfl rfl rfl ?_
          refine WS.pend rfl ?_
          refine WS.pcondT rfl rfl ?_
          refine WS.pregion rfl ?_
          refine WS.po (tb := tb) rfl rfl rfl rfl rfl ?_
          refine WS.po (tb := tb) rfl rfl rfl rfl rfl ?_
          refine WS.po (tb := tb) rfl rfl rfl rfl rfl ?_
          refine WS.poP (tb := tb) rfl rfl rfl rfl (step_P (evP_index rfl rfl rfl rfl rfl rfl (by omega))) (by simp only [Nat.zero_add, Nat.add_zero, Nat.reduceAdd, Nat.reduceMul, Nat.add_assoc, Nat.mul_one]; exact rfl) ?_
          refine WS.po0 (tb := tb) rfl rfl rfl rfl (step_H rfl rfl (evH_store rfl rfl rfl rfl rfl (Nat.zero_le _) rfl (by simp [vcells]) (by simp only [Pl_len, Rn_len, Vw_len, Act_len, vcells, List.length_cons, List.length_nil, cellsI_len, cellsB_len, List.length_set, List.length_replicate, List.length_append, List.length_map, List.length_take, List.length_drop, htl]; omega))) ?_; rw [upd_mem _ rfl]; simp only [vcells, List.set_cons_zero, List.set_cons_succ, hs1, hs2, rmR, tsR, trR, arR, oI]; (try simp only [setL, List.set_cons_zero, List.set_cons_succ])
          refine WS.pend rfl ?_
          refine WS.pregion rfl ?_
          refine WS.po (tb := tb) rfl rfl rfl rfl rfl ?_
          refine WS.poW (tb := tb) rfl rfl rfl rfl rfl (by simp only [lo]; omega) (by simp only [Am.hi]; omega) ?_
          refine WS.po (tb := tb) rfl rfl rfl rfl rfl ?_
          refine WS.pend rfl ?_
          refine WS.nil ?_
          exact ⟨i + 1, by omega, by omega, (SeenBy.seen (v := [0,1,2,3,4,5]) ⟨rfl, rfl, (by simp [viewP, okL, okV, mapL, mapV, mem_get, mapL_cellsR, okL_cellsR, MC]), (by first | exact rfl | exact own2_dist rfl rfl), (by simp only [slotsP, okV, okL, mapV, mapL, and_true, true_and, List.length_cons, List.length_nil, List.length_append, List.length_map, Nat.reduceAdd, Nat.reduceLT, MC]; repeat' (first | exact rfl | refine ⟨?_, ?_⟩ | exact lk_m rfl (hmp _ rfl) | exact lk_m rfl (hmp2 _ rfl) | exact hok _ (Nat.le_of_ble_eq_true rfl) | exact hok2 _ (Nat.le_of_ble_eq_true rfl) | exact lk_i rfl (by omega) | exact lk_sl rfl (by omega) (by omega) (by omega) | decide | omega))⟩)⟩
      · obtain rfl : i = cap := by omega
        refine WS.pseq rfl ?_
        refine WS.pseq rfl ?_
        refine WS.pregion rfl ?_
        refine WS.po (tb := tb) rfl rfl rfl rfl rfl ?_
        refine WS.po (tb := tb) rfl rfl rfl rfl rfl ?_
        refine WS.poDF (tb := tb) rfl rfl rfl rfl rfl (by omega) ?_
        refine WS.pend rfl ?_
        refine WS.pcondF rfl rfl ?_
        refine WS.pout rfl rfl ?_
        exact ⟨rfl, (), trivial, (SeenBy.seen (v := [0,1,2,3,4,5]) ⟨rfl, rfl, (by simp [viewP, okL, okV, mapL, mapV, mem_get, mapL_cellsR, okL_cellsR, MC]), (by first | exact rfl | exact own2_dist rfl rfl), (by simp only [slotsP, okV, okL, mapV, mapL, and_true, true_and, List.length_cons, List.length_nil, List.length_append, List.length_map, Nat.reduceAdd, Nat.reduceLT, MC]; repeat' (first | exact rfl | refine ⟨?_, ?_⟩ | exact lk_m rfl (hmp _ rfl) | exact lk_m rfl (hmp2 _ rfl) | exact hok _ (Nat.le_of_ble_eq_true rfl) | exact hok2 _ (Nat.le_of_ble_eq_true rfl) | exact lk_i rfl (by omega) | exact lk_sl rfl (by omega) (by omega) (by omega) | decide | omega))⟩)⟩
    · rintro _ -
      have C := clr_all lba n H h2
      rw [if_pos hr] at C
      obtain ⟨H2, E2⟩ := clrT_ok lba n H h2
      generalize clrT cap s lba n = u at *
      simp only [MC, List.cons_append, List.nil_append]
      refine WS.pseq rfl ?_
      refine WS.pseq rfl ?_
      refine WS.pregion rfl ?_
      refine WS.po (tb := tb) rfl rfl rfl rfl rfl ?_
      refine WS.po (tb := tb) rfl rfl rfl rfl rfl ?_
      refine WS.po (tb := tb) rfl rfl rfl rfl rfl ?_
      refine WS.pcallM (tb := tb) [1,2,3,4] C rfl rfl rfl rfl rfl (by (try simp only [mapL, mapV, List.getD_cons_zero, List.getD_cons_succ]); exact rfl) (by simp [okL, okV, rmM, tsM, trM, arM]; fail_if_success exfalso) rfl (by simp [embP, okL, okV, mapL, mapV, mem_next, mem_get, mem_ro, mapL_cellsR, okL_cellsR, rmM, tsM, trM, arM]; fail_if_success exfalso) rfl ?_; rintro _ _ ⟨rfl, rfl⟩ -; simp only [plugL, setsL, newsL, isOwn, ownB, over, mapL, mapV, List.getD_cons_zero, List.getD_cons_succ, List.set_cons_zero, List.set_cons_succ, List.length_cons, List.length_nil, Nat.reduceAdd, Nat.reduceLT, Nat.zero_add, if_true, if_false, Nat.reduceSub, reduceIte, List.map_cons, List.map_nil, List.append_nil, List.cons_append, List.nil_append, mapL_cellsR, Nat.lt_irrefl, Nat.not_lt_zero, Nat.zero_lt_succ, Nat.lt_add_one, rmM, tsM, trM, arM]
      refine WS.poB (tb := tb) false rfl rfl rfl rfl rfl rfl ?_
      refine WS.pend rfl ?_
      refine WS.pcondF rfl rfl ?_
      refine WS.pskip rfl ?_
      refine WS.pseq rfl ?_
      refine WS.pseq rfl ?_
      refine WS.pregion rfl ?_
      refine WS.po (tb := tb) rfl rfl rfl rfl rfl ?_
      refine WS.pend rfl ?_
      refine WS.pblock rfl ?_
      refine WS.ploopI (σ := Nat) (τ := Unit) (fun i => [(0, .i .i64 cap), (2, .i .i64 lba), (3, .i .i64 n), (9, .p (some (4,0))), (12, .sl (some (5,0)) cap cap false), (16, .i .i64 i)]) (fun i => MC l cap u ++ [some ⟨cellsR (rwI .i64) (tabL cap (runsT s.T) cap), 3, true⟩]) (fun i => i ≤ cap) (fun i => cap - i)
        (fun _ => [(0, .i .i64 cap), (9, .p (some (4,0)))]) (fun _ => MC l cap u) (fun _ => True) 4 [0,1,2,3,4,5] 0 rfl (Nat.zero_le _) ⟨rfl, rfl, (by simp [viewP, okL, okV, mapL, mapV, mem_get, mapL_cellsR, okL_cellsR, MC]), (by first | exact rfl | exact own2_dist rfl rfl), (by simp only [slotsP, okV, okL, mapV, mapL, and_true, true_and, List.length_cons, List.length_nil, List.length_append, List.length_map, Nat.reduceAdd, Nat.reduceLT, MC]; repeat' (first | exact rfl | refine ⟨?_, ?_⟩ | exact lk_m rfl (hmp _ rfl) | exact lk_m rfl (hmp2 _ rfl) | exact hok _ (Nat.le_of_ble_eq_true rfl) | exact hok2 _ (Nat.le_of_ble_eq_true rfl) | exact lk_i rfl (by omega) | exact lk_sl rfl (by omega) (by omega) (by omega) | decide | omega))⟩ rfl ?_ ?_
      · intro i hi
        simp only [MC, List.cons_append, List.nil_append]
        by_cases h : i < cap
        · have G := rget_walk (i : Int) H2 h2 (by omega) (by omega) (by omega)
          have ht : (tabL cap (runsT s.T) cap)[i]? = some (pgO (getR i (runsT s.T))) := by rw [tabL, mkl_get h, if_pos h]
          by_cases hin : lba ≤ (i : Int) ∧ (i : Int) < lba + n
          · have hg : getR (i : Int) (runsT u.T) = none := by
              cases hg : getR (i : Int) (runsT u.T) with
              | none => rfl
              | some p => have := (E2 i p).1 ((getR_pg H2.nf i p).1 hg); rw [if_pos ⟨hr, hin⟩] at this; exact this.elim
            rw [hg] at G
            obtain ⟨hin1, hin2⟩ := hin
            refine WS.pseq rfl ?_
            refine WS.pseq rfl ?_
            refine WS.pregion rfl ?_
            refine WS.po (tb := tb) rfl rfl rfl rfl rfl ?_
            refine WS.po (tb := tb) rfl rfl rfl rfl rfl ?_
            refine WS.poDT (tb := tb) rfl rfl rfl rfl rfl (by omega) ?_
            refine WS.pend rfl ?_
            refine WS.pcondT rfl rfl ?_
            refine WS.pskip rfl ?_
            refine WS.pseq rfl ?_
            refine WS.pblock rfl ?_
            refine WS.pseq rfl ?_
            refine WS.pregion rfl ?_
            refine WS.po (tb := tb) rfl rfl rfl rfl rfl ?_
            refine WS.po (tb := tb) rfl rfl rfl rfl rfl ?_
            refine WS.pcallM (tb := tb) [1,2,3,4] G rfl rfl rfl rfl rfl (by (try simp only [mapL, mapV, List.getD_cons_zero, List.getD_cons_succ]); exact rfl) (by simp [okL, okV, rmR, tsR, trR, arR, oI]; fail_if_success exfalso) rfl (by simp [embP, okL, okV, mapL, mapV, mem_next, mem_get, mem_ro, mapL_cellsR, okL_cellsR, rmR, tsR, trR, arR, oI]; fail_if_success exfalso) rfl ?_; rintro _ _ ⟨rfl, rfl⟩ -; simp only [plugL, setsL, newsL, isOwn, ownB, over, mapL, mapV, List.getD_cons_zero, List.getD_cons_succ, List.set_cons_zero, List.set_cons_succ, List.length_cons, List.length_nil, Nat.reduceAdd, Nat.reduceLT, Nat.zero_add, if_true, if_false, Nat.reduceSub, reduceIte, List.map_cons, List.map_nil, List.append_nil, List.cons_append, List.nil_append, mapL_cellsR, Nat.lt_irrefl, Nat.not_lt_zero, Nat.zero_lt_succ, Nat.lt_add_one, rmR, tsR, trR, arR, oI]
            refine WS.po (tb := tb) rfl rfl rfl rfl rfl ?_
            refine WS.po (tb := tb) rfl rfl rfl rfl rfl ?_
            refine WS.po (tb := tb) rfl rfl rfl rfl rfl ?_
            refine WS.po (tb := tb) rfl rfl rfl rfl rfl ?_
            refine WS.po (tb := tb) rfl rfl rfl rfl rfl ?_
            refine WS.pend rfl ?_
            refine WS.pseq rfl ?_
            refine WS.pregion rfl ?_
            refine WS.po (tb := tb) rfl rfl rfl rfl rfl ?_
            refine WS.po (tb := tb) rfl rfl rfl rfl rfl ?_
            refine WS.poDT (tb := tb) rfl rfl rfl rfl rfl (by omega) ?_
            refine WS.po (tb := tb) rfl rfl rfl rfl rfl ?_
            refine WS.po (tb := tb) rfl rfl rfl rfl rfl ?_
            refine WS.po (tb := tb) rfl rfl rfl rfl rfl ?_
            refine WS.po (tb := tb) rfl rfl rfl rfl rfl ?_
            refine WS.poW (tb := tb) rfl rfl rfl rfl rfl (by simp only [lo]; omega) (by simp only [Am.hi]; omega) ?_
            refine WS.poDT (tb := tb) rfl rfl rfl rfl rfl (by omega) ?_
            refine WS.po (tb := tb) rfl rfl rfl rfl rfl ?_
            refine WS.po (tb := tb) rfl rfl rfl rfl rfl ?_
            refine WS.pend rfl ?_
            refine WS.pseq rfl ?_
            refine WS.pregion rfl ?_
            refine WS.po (tb := tb) rfl rfl rfl rfl rfl ?_
            refine WS.po (tb := tb) rfl rfl rfl rfl rfl ?_
            refine WS.po (tb := tb) rfl rfl rfl rfl rfl ?_
            refine WS.po (tb := tb) rfl rfl rfl rfl rfl ?_
            refine WS.po (tb := tb) rfl rfl rfl rfl rfl ?_
            refine WS.po (tb := tb) rfl rfl rfl rfl rfl ?_
            refine WS.poB (tb := tb) false rfl rfl rfl rfl rfl rfl ?_
            refine WS.po (tb := tb) rfl rfl rfl rfl rfl ?_
            refine WS.pono rfl rfl rfl rfl ?_
            refine WS.pono rfl rfl rfl rfl ?_
            refine WS.pono rfl rfl rfl rfl ?_
            refine WS.pono rfl rfl rfl rfl ?_
            refine WS.pono rfl rfl rfl rfl ?_
            refine WS.pono rfl rfl rfl rfl ?_
            refine WS.pono rfl rfl rfl rfl ?_
            refine WS.pono rfl rfl rfl rfl ?_
            refine WS.pono rfl rfl rfl rfl ?_
            refine WS.pono rfl rfl rfl rfl ?_
            refine WS.pono rfl rfl rfl rfl ?_
            refine WS.pono rfl rfl rfl rfl ?_
            refine WS.pono rfl rfl rfl rfl ?_
            refine WS.pono rfl rfl rfl rfl ?_
            refine WS.pono rfl rfl rfl rfl ?_
            refine WS.pono rfl rfl rfl rfl ?_
            refine WS.pono rfl rfl rfl rfl ?_
            refine WS.pono rfl rfl rfl rfl ?_
            refine WS.po (tb := tb) rfl rfl rfl rfl rfl ?_
            refine WS.po (tb := tb) rfl rfl rfl rfl rfl ?_
            refine WS.pend rfl ?_
            refine WS.pcondF rfl rfl ?_
            refine WS.pskip rfl ?_
            refine WS.pregion rfl ?_
            refine WS.po (tb := tb) rfl rfl rfl rfl rfl ?_
            refine WS.poW (tb := tb) rfl rfl rfl rfl rfl (by simp only [lo]; omega) (by simp only [Am.hi]; omega) ?_
            refine WS.po (tb := tb) rfl rfl rfl rfl rfl ?_
            refine WS.pend rfl ?_
            refine WS.nil ?_
            exact ⟨i + 1, by omega, by omega, (SeenBy.seen (v := [0,1,2,3,4,5]) ⟨rfl, rfl, (by simp [viewP, okL, okV, mapL, mapV, mem_get, mapL_cellsR, okL_cellsR, MC]), (by first | exact rfl | exact own2_dist rfl rfl), (by simp only [slotsP, okV, okL, mapV, mapL, and_true, true_and, List.length_cons, List.length_nil, List.length_append, List.length_map, Nat.reduceAdd, Nat.reduceLT, MC]; repeat' (first | exact rfl | refine ⟨?_, ?_⟩ | exact lk_m rfl (hmp _ rfl) | exact lk_m rfl (hmp2 _ rfl) | exact hok _ (Nat.le_of_ble_eq_true rfl) | exact hok2 _ (Nat.le_of_ble_eq_true rfl) | exact lk_i rfl (by omega) | exact lk_sl rfl (by omega) (by omega) (by omega) | decide | omega))⟩)⟩
          · have hg : getR (i : Int) (runsT u.T) = getR (i : Int) (runsT s.T) := getR_ext H2.nf H.nf fun p => by rw [E2, if_neg fun hh => hin hh.2]
            rw [hg] at G
            by_cases hlow : (i : Int) < lba
            · cases ho : getR (i : Int) (runsT s.T) with
              | none =>
                rw [ho] at G ht
                simp only [pgO] at ht
                refine WS.pseq rfl ?_
                refine WS.pseq rfl ?_
                refine WS.pregion rfl ?_
                refine WS.po (tb := tb) rfl rfl rfl rfl rfl ?_
                refine WS.po (tb := tb) rfl rfl rfl rfl rfl ?_
                refine WS.poDT (tb := tb) rfl rfl rfl rfl rfl (by omega) ?_
                refine WS.pend rfl ?_
                refine WS.pcondT rfl rfl ?_
                refine WS.pskip rfl ?_
                refine WS.pseq rfl ?_
                refine WS.pblock rfl ?_
                refine WS.pseq rfl ?_
                refine WS.pregion rfl ?_
                refine WS.po (tb := tb) rfl rfl rfl rfl rfl ?_
                refine WS.po (tb := tb) rfl rfl rfl rfl rfl ?_
                refine WS.pcallM (tb := tb) [1,2,3,4] G rfl rfl rfl rfl rfl (by (try simp only [mapL, mapV, List.getD_cons_zero, List.getD_cons_succ]); exact rfl) (by simp [okL, okV, rmR, tsR, trR, arR, oI]; fail_if_success exfalso) rfl (by simp [embP, okL, okV, mapL, mapV, mem_next, mem_get, mem_ro, mapL_cellsR, okL_cellsR, rmR, tsR, trR, arR, oI]; fail_if_success exfalso) rfl ?_; rintro _ _ ⟨rfl, rfl⟩ -; simp only [plugL, setsL, newsL, isOwn, ownB, over, mapL, mapV, List.getD_cons_zero, List.getD_cons_succ, List.set_cons_zero, List.set_cons_succ, List.length_cons, List.length_nil, Nat.reduceAdd, Nat.reduceLT, Nat.zero_add, if_true, if_false, Nat.reduceSub, reduceIte, List.map_cons, List.map_nil, List.append_nil, List.cons_append, List.nil_append, mapL_cellsR, Nat.lt_irrefl, Nat.not_lt_zero, Nat.zero_lt_succ, Nat.lt_add_one, rmR, tsR, trR, arR, oI]
                refine WS.po (tb := tb) rfl rfl rfl rfl rfl ?_
                refine WS.po (tb := tb) rfl rfl rfl rfl rfl ?_
                refine WS.po (tb := tb) rfl rfl rfl rfl rfl ?_
                refine WS.po (tb := tb) rfl rfl rfl rfl rfl ?_
                refine WS.po (tb := tb) rfl rfl rfl rfl rfl ?_
                refine WS.pend rfl ?_
                refine WS.pseq rfl ?_
                refine WS.pregion rfl ?_
                refine WS.po (tb := tb) rfl rfl rfl rfl rfl ?_
                refine WS.po (tb := tb) rfl rfl rfl rfl rfl ?_
                refine WS.poDF (tb := tb) rfl rfl rfl rfl rfl (by omega) ?_
                refine WS.po (tb := tb) rfl rfl rfl rfl rfl ?_
                refine WS.pono rfl rfl rfl rfl ?_
                refine WS.pono rfl rfl rfl rfl ?_
                refine WS.pono rfl rfl rfl rfl ?_
                refine WS.pono rfl rfl rfl rfl ?_
                refine WS.pono rfl rfl rfl rfl ?_
                refine WS.po (tb := tb) rfl rfl rfl rfl rfl ?_
                refine WS.po (tb := tb) rfl rfl rfl rfl rfl ?_
                refine WS.pend rfl ?_
                refine WS.pseq rfl ?_
                refine WS.pregion rfl ?_
                refine WS.po (tb := tb) rfl rfl rfl rfl rfl ?_
                refine WS.po (tb := tb) rfl rfl rfl rfl rfl ?_
                refine WS.pono rfl rfl rfl rfl ?_
                refine WS.po (tb := tb) rfl rfl rfl rfl rfl ?_
                refine WS.po (tb := tb) rfl rfl rfl rfl rfl ?_
                refine WS.po (tb := tb) rfl rfl rfl rfl rfl ?_
                refine WS.poB (tb := tb) true rfl rfl rfl rfl rfl rfl ?_
                refine WS.po (tb := tb) rfl rfl rfl rfl rfl ?_
                refine WS.po (tb := tb) rfl rfl rfl rfl rfl ?_
                refine WS.po (tb := tb) rfl rfl rfl rfl rfl ?_
                refine WS.po (tb := tb) rfl rfl rfl rfl rfl ?_
                refine WS.poP (tb := tb) rfl rfl rfl rfl (step_P (evP_index rfl rfl rfl rfl rfl rfl (by omega))) (by simp only [Nat.zero_add, Nat.add_zero, Nat.reduceAdd, Nat.reduceMul, Nat.add_assoc, Nat.mul_one]; exact rfl) ?_
                refine WS.po (tb := tb) rfl rfl rfl rfl (step_R rfl (evR_load rfl rfl rfl rfl (cellsI_get ht))) ?_
                refine WS.poB (tb := tb) false rfl rfl rfl rfl rfl rfl ?_
                refine WS.poB (tb := tb) false rfl rfl rfl rfl rfl rfl ?_
                refine WS.po (tb := tb) rfl rfl rfl rfl rfl ?_
                refine WS.po (tb := tb) rfl rfl rfl rfl rfl ?_
                refine WS.po (tb := tb) rfl rfl rfl rfl rfl ?_
                refine WS.pono rfl rfl rfl rfl ?_
                refine WS.pono rfl rfl rfl rfl ?_
                refine WS.pono rfl rfl rfl rfl ?_
                refine WS.pono rfl rfl rfl rfl ?_
                refine WS.pono rfl rfl rfl rfl ?_
                refine WS.pono rfl rfl rfl rfl ?_
                refine WS.po (tb := tb) rfl rfl rfl rfl rfl ?_
                refine WS.po (tb := tb) rfl rfl rfl rfl rfl ?_
                refine WS.po (tb := tb) rfl rfl rfl rfl rfl ?_
                refine WS.po (tb := tb) rfl rfl rfl rfl rfl ?_
                refine WS.pend rfl ?_
                refine WS.pcondF rfl rfl ?_
                refine WS.pskip rfl ?_
                refine WS.pregion rfl ?_
                refine WS.po (tb := tb) rfl rfl rfl rfl rfl ?_
                refine WS.poW (tb := tb) rfl rfl rfl rfl rfl (by simp only [lo]; omega) (by simp only [Am.hi]; omega) ?_
                refine WS.po (tb := tb) rfl rfl rfl rfl rfl ?_
                refine WS.pend rfl ?_
                refine WS.nil ?_
                exact ⟨i + 1, by omega, by omega, (SeenBy.seen (v := [0,1,2,3,4,5]) ⟨rfl, rfl, (by simp [viewP, okL, okV, mapL, mapV, mem_get, mapL_cellsR, okL_cellsR, MC]), (by first | exact rfl | exact own2_dist rfl rfl), (by simp only [slotsP, okV, okL, mapV, mapL, and_true, true_and, List.length_cons, List.length_nil, List.length_append, List.length_map, Nat.reduceAdd, Nat.reduceLT, MC]; repeat' (first | exact rfl | refine ⟨?_, ?_⟩ | exact lk_m rfl (hmp _ rfl) | exact lk_m rfl (hmp2 _ rfl) | exact hok _ (Nat.le_of_ble_eq_true rfl) | exact hok2 _ (Nat.le_of_ble_eq_true rfl) | exact lk_i rfl (by omega) | exact lk_sl rfl (by omega) (by omega) (by omega) | decide | omega))⟩)⟩
              | some p =>
                have hp0 := getR_pos H.nf ho
                rw [ho] at G ht
                simp only [pgO] at ht
                refine WS.pseq rfl ?_
                refine WS.pseq rfl ?_
                refine WS.pregion rfl ?_
                refine WS.po (tb := tb) rfl rfl rfl rfl rfl ?_
                refine WS.po (tb := tb) rfl rfl rfl rfl rfl ?_
                refine WS.poDT (tb := tb) rfl rfl rfl rfl rfl (by omega) ?_
                refine WS.pend rfl ?_
                refine WS.pcondT rfl rfl ?_
                refine WS.pskip rfl ?_
                refine WS.pseq rfl ?_
                refine WS.pblock rfl ?_
                refine WS.pseq rfl ?_
                refine WS.pregion rfl ?_
                refine WS.po (tb := tb) rfl rfl rfl rfl rfl ?_
                refine WS.po (tb := tb) rfl rfl rfl rfl rfl ?_
                refine WS.pcallM (tb := tb) [1,2,3,4] G rfl rfl rfl rfl rfl (by (try simp only [mapL, mapV, List.getD_cons_zero, List.getD_cons_succ]); exact rfl) (by simp [okL, okV, rmR, tsR, trR, arR, oI]; fail_if_success exfalso) rfl (by simp [embP, okL, okV, mapL, mapV, mem_next, mem_get, mem_ro, mapL_cellsR, okL_cellsR, rmR, tsR, trR, arR, oI]; fail_if_success exfalso) rfl ?_; rintro _ _ ⟨rfl, rfl⟩ -; simp only [plugL, setsL, newsL, isOwn, ownB, over, mapL, mapV, List.getD_cons_zero, List.getD_cons_succ, List.set_cons_zero, List.set_cons_succ, List.length_cons, List.length_nil, Nat.reduceAdd, Nat.reduceLT, Nat.zero_add, if_true, if_false, Nat.reduceSub, reduceIte, List.map_cons, List.map_nil, List.append_nil, List.cons_append, List.nil_append, mapL_cellsR, Nat.lt_irrefl, Nat.not_lt_zero, Nat.zero_lt_succ, Nat.lt_add_one, rmR, tsR, trR, arR, oI]
                refine WS.po (tb := tb) rfl rfl rfl rfl rfl ?_
                refine WS.po (tb := tb) rfl rfl rfl rfl rfl ?_
                refine WS.po (tb := tb) rfl rfl rfl rfl rfl ?_
                refine WS.po (tb := tb) rfl rfl rfl rfl rfl ?_
                refine WS.po (tb := tb) rfl rfl rfl rfl rfl ?_
                refine WS.pend rfl ?_
                refine WS.pseq rfl ?_
                refine WS.pregion rfl ?_
                refine WS.po (tb := tb) rfl rfl rfl rfl rfl ?_
                refine WS.po (tb := tb) rfl rfl rfl rfl rfl ?_
                refine WS.poDF (tb := tb) rfl rfl rfl rfl rfl (by omega) ?_
                refine WS.po (tb := tb) rfl rfl rfl rfl rfl ?_
                refine WS.pono rfl rfl rfl rfl ?_
                refine WS.pono rfl rfl rfl rfl ?_
                refine WS.pono rfl rfl rfl rfl ?_
                refine WS.pono rfl rfl rfl rfl ?_
                refine WS.pono rfl rfl rfl rfl ?_
                refine WS.po (tb := tb) rfl rfl rfl rfl rfl ?_
                refine WS.po (tb := tb) rfl rfl rfl rfl rfl ?_
                refine WS.pend rfl ?_
                refine WS.pseq rfl ?_
                refine WS.pregion rfl ?_
                refine WS.po (tb := tb) rfl rfl rfl rfl rfl ?_
                refine WS.po (tb := tb) rfl rfl rfl rfl rfl ?_
                refine WS.pono rfl rfl rfl rfl ?_
                refine WS.po (tb := tb) rfl rfl rfl rfl rfl ?_
                refine WS.po (tb := tb) rfl rfl rfl rfl rfl ?_
                refine WS.po (tb := tb) rfl rfl rfl rfl rfl ?_
                refine WS.poB (tb := tb) true rfl rfl rfl rfl rfl rfl ?_
                refine WS.po (tb := tb) rfl rfl rfl rfl rfl ?_
                refine WS.po (tb := tb) rfl rfl rfl rfl rfl ?_
                refine WS.po (tb := tb) rfl rfl rfl rfl rfl ?_
                refine WS.po (tb := tb) rfl rfl rfl rfl rfl ?_
                refine WS.poP (tb := tb) rfl rfl rfl rfl (step_P (evP_index rfl rfl rfl rfl rfl rfl (by omega))) (by simp only [Nat.zero_add, Nat.add_zero, Nat.reduceAdd, Nat.reduceMul, Nat.add_assoc, Nat.mul_one]; exact rfl) ?_
                refine WS.po (tb := tb) rfl rfl rfl rfl (step_R rfl (evR_load rfl rfl rfl rfl (cellsI_get ht))) ?_
                refine WS.poDT (tb := tb) rfl rfl rfl rfl rfl (by omega) ?_
                refine WS.poB (tb := tb) false rfl rfl rfl rfl rfl rfl ?_
                refine WS.po (tb := tb) rfl rfl rfl rfl rfl ?_
                refine WS.po (tb := tb) rfl rfl rfl rfl rfl ?_
                refine WS.po (tb := tb) rfl rfl rfl rfl rfl ?_
                refine WS.po (tb := tb) rfl rfl rfl rfl rfl ?_
                refine WS.po (tb := tb) rfl rfl rfl rfl rfl ?_
                refine WS.po (tb := tb) rfl rfl rfl rfl rfl ?_
                refine WS.poP (tb := tb) rfl rfl rfl rfl (step_P (evP_index rfl rfl rfl rfl rfl rfl (by omega))) (by simp only [Nat.zero_add, Nat.add_zero, Nat.reduceAdd, Nat.reduceMul, Nat.add_assoc, Nat.mul_one]; exact rfl) ?_
                refine WS.po (tb := tb) rfl rfl rfl rfl (step_R rfl (evR_load rfl rfl rfl rfl (cellsI_get ht))) ?_
                refine WS.poNF (tb := tb) rfl rfl rfl rfl rfl (by omega) ?_
                refine WS.po (tb := tb) rfl rfl rfl rfl rfl ?_
                refine WS.po (tb := tb) rfl rfl rfl rfl rfl ?_
                refine WS.po (tb := tb) rfl rfl rfl rfl rfl ?_
                refine WS.po (tb := tb) rfl rfl rfl rfl rfl ?_
                refine WS.pend rfl ?_
                refine WS.pcondF rfl rfl ?_
                refine WS.pskip rfl ?_
                refine WS.pregion rfl ?_
                refine WS.po (tb := tb) rfl rfl rfl rfl rfl ?_
                refine WS.poW (tb := tb) rfl rfl rfl rfl rfl (by simp only [lo]; omega) (by simp only [Am.hi]; omega) ?_
                refine WS.po (tb := tb) rfl rfl rfl rfl rfl ?_
                refine WS.pend rfl ?_
                refine WS.nil ?_
                exact ⟨i + 1, by omega, by omega, (SeenBy.seen (v := [0,1,2,3,4,5]) ⟨rfl, rfl, (by simp [viewP, okL, okV, mapL, mapV, mem_get, mapL_cellsR, okL_cellsR, MC]), (by first | exact rfl | exact own2_dist rfl rfl), (by simp only [slotsP, okV, okL, mapV, mapL, and_true, true_and, List.length_cons, List.length_nil, List.length_append, List.length_map, Nat.reduceAdd, Nat.reduceLT, MC]; repeat' (first | exact rfl | refine ⟨?_, ?_⟩ | exact lk_m rfl (hmp _ rfl) | exact lk_m rfl (hmp2 _ rfl) | exact hok _ (Nat.le_of_ble_eq_true rfl) | exact hok2 _ (Nat.le_of_ble_eq_true rfl) | exact lk_i rfl (by omega) | exact lk_sl rfl (by omega) (by omega) (by omega) | decide | omega))⟩)⟩
            · cases ho : getR (i : Int) (runsT s.T) with
              | none =>
                rw [ho] at G ht
                simp only [pgO] at ht
                refine WS.pseq rfl ?_
                refine WS.pseq rfl ?_
                refine WS.pregion rfl ?_
                refine WS.po (tb := tb) rfl rfl rfl rfl rfl ?_
                refine WS.po (tb := tb) rfl rfl rfl rfl rfl ?_
                refine WS.poDT (tb := tb) rfl rfl rfl rfl rfl (by omega) ?_
                refine WS.pend rfl ?_
                refine WS.pcondT rfl rfl ?_
                refine WS.pskip rfl ?_
                refine WS.pseq rfl ?_
                refine WS.pblock rfl ?_
                refine WS.pseq rfl ?_
                refine WS.pregion rfl ?_
                refine WS.po (tb := tb) rfl rfl rfl rfl rfl ?_
                refine WS.po (tb := tb) rfl rfl rfl rfl rfl ?_
                refine WS.pcallM (tb := tb) [1,2,3,4] G rfl rfl rfl rfl rfl (by (try simp only [mapL, mapV, List.getD_cons_zero, List.getD_cons_succ]); exact rfl) (by simp [okL, okV, rmR, tsR, trR, arR, oI]; fail_if_success exfalso) rfl (by simp [embP, okL, okV, mapL, mapV, mem_next, mem_get, mem_ro, mapL_cellsR, okL_cellsR, rmR, tsR, trR, arR, oI]; fail_if_success exfalso) rfl ?_; rintro _ _ ⟨rfl, rfl⟩ -; simp only [plugL, setsL, newsL, isOwn, ownB, over, mapL, mapV, List.getD_cons_zero, List.getD_cons_succ, List.set_cons_zero, List.set_cons_succ, List.length_cons, List.length_nil, Nat.reduceAdd, Nat.reduceLT, Nat.zero_add, if_true, if_false, Nat.reduceSub, reduceIte, List.map_cons, List.map_nil, List.append_nil, List.cons_append, List.nil_append, mapL_cellsR, Nat.lt_irrefl, Nat.not_lt_zero, Nat.zero_lt_succ, Nat.lt_add_one, rmR, tsR, trR, arR, oI]
                refine WS.po (tb := tb) rfl rfl rfl rfl rfl ?_
                refine WS.po (tb := tb) rfl rfl rfl rfl rfl ?_
                refine WS.po (tb := tb) rfl rfl rfl rfl rfl ?_
                refine WS.po (tb := tb) rfl rfl rfl rfl rfl ?_
                refine WS.po (tb := tb) rfl rfl rfl rfl rfl ?_
                refine WS.pend rfl ?_
                refine WS.pseq rfl ?_
                refine WS.pregion rfl ?_
                refine WS.po (tb := tb) rfl rfl rfl rfl rfl ?_
                refine WS.po (tb := tb) rfl rfl rfl rfl rfl ?_
                refine WS.poDT (tb := tb) rfl rfl rfl rfl rfl (by omega) ?_
                refine WS.po (tb := tb) rfl rfl rfl rfl rfl ?_
                refine WS.po (tb := tb) rfl rfl rfl rfl rfl ?_
                refine WS.po (tb := tb) rfl rfl rfl rfl rfl ?_
                refine WS.po (tb := tb) rfl rfl rfl rfl rfl ?_
                refine WS.poW (tb := tb) rfl rfl rfl rfl rfl (by simp only [lo]; omega) (by simp only [Am.hi]; omega) ?_
                refine WS.poDF (tb := tb) rfl rfl rfl rfl rfl (by omega) ?_
                refine WS.po (tb := tb) rfl rfl rfl rfl rfl ?_
                refine WS.po (tb := tb) rfl rfl rfl rfl rfl ?_
                refine WS.pend rfl ?_
                refine WS.pseq rfl ?_
                refine WS.pregion rfl ?_
                refine WS.po (tb := tb) rfl rfl rfl rfl rfl ?_
                refine WS.po (tb := tb) rfl rfl rfl rfl rfl ?_
                refine WS.pono rfl rfl rfl rfl ?_
                refine WS.po (tb := tb) rfl rfl rfl rfl rfl ?_
                refine WS.po (tb := tb) rfl rfl rfl rfl rfl ?_
                refine WS.po (tb := tb) rfl rfl rfl rfl rfl ?_
                refine WS.poB (tb := tb) true rfl rfl rfl rfl rfl rfl ?_
                refine WS.po (tb := tb) rfl rfl rfl rfl rfl ?_
                refine WS.po (tb := tb) rfl rfl rfl rfl rfl ?_
                refine WS.po (tb := tb) rfl rfl rfl rfl rfl ?_
                refine WS.po (tb := tb) rfl rfl rfl rfl rfl ?_
                refine WS.poP (tb := tb) rfl rfl rfl rfl (step_P (evP_index rfl rfl rfl rfl rfl rfl (by omega))) (by simp only [Nat.zero_add, Nat.add_zero, Nat.reduceAdd, Nat.reduceMul, Nat.add_assoc, Nat.mul_one]; exact rfl) ?_
                refine WS.po (tb := tb) rfl rfl rfl rfl (step_R rfl (evR_load rfl rfl rfl rfl (cellsI_get ht))) ?_
                refine WS.poB (tb := tb) false rfl rfl rfl rfl rfl rfl ?_
                refine WS.poB (tb := tb) false rfl rfl rfl rfl rfl rfl ?_
                refine WS.po (tb := tb) rfl rfl rfl rfl rfl ?_
                refine WS.po (tb := tb) rfl rfl rfl rfl rfl ?_
                refine WS.po (tb := tb) rfl rfl rfl rfl rfl ?_
                refine WS.pono rfl rfl rfl rfl ?_
                refine WS.pono rfl rfl rfl rfl ?_
                refine WS.pono rfl rfl rfl rfl ?_
                refine WS.pono rfl rfl rfl rfl ?_
                refine WS.pono rfl rfl rfl rfl ?_
                refine WS.pono rfl rfl rfl rfl ?_
                refine WS.po (tb := tb) rfl rfl rfl rfl rfl ?_
                refine WS.po (tb := tb) rfl rfl rfl rfl rfl ?_
                refine WS.po (tb := tb) rfl rfl rfl rfl rfl ?_
                refine WS.po (tb := tb) rfl rfl rfl rfl rfl ?_
                refine WS.pend rfl ?_
                refine WS.pcondF rfl rfl ?_
                refine WS.pskip rfl ?_
                refine WS.pregion rfl ?_
                refine WS.po (tb := tb) rfl rfl rfl rfl rfl ?_
                refine WS.poW (tb := tb) rfl rfl rfl rfl rfl (by simp only [lo]; omega) (by simp only [Am.hi]; omega) ?_
                refine WS.po (tb := tb) rfl rfl rfl rfl rfl ?_
                refine WS.pend rfl ?_
                refine WS.nil ?_
                exact ⟨i + 1, by omega, by omega, (SeenBy.seen (v := [0,1,2,3,4,5]) ⟨rfl, rfl, (by simp [viewP, okL, okV, mapL, mapV, mem_get, mapL_cellsR, okL_cellsR, MC]), (by first | exact rfl | exact own2_dist rfl rfl), (by simp only [slotsP, okV, okL, mapV, mapL, and_true, true_and, List.length_cons, List.length_nil, List.length_append, List.length_map, Nat.reduceAdd, Nat.reduceLT, MC]; repeat' (first | exact rfl | refine ⟨?_, ?_⟩ | exact lk_m rfl (hmp _ rfl) | exact lk_m rfl (hmp2 _ rfl) | exact hok _ (Nat.le_of_ble_eq_true rfl) | exact hok2 _ (Nat.le_of_ble_eq_true rfl) | exact lk_i rfl (by omega) | exact lk_sl rfl (by omega) (by omega) (by omega) | decide | omega))⟩)⟩
              | some p =>
                have hp0 := getR_pos H.nf ho
                rw [ho] at G ht
                simp only [pgO] at ht
                refine WS.pseq rfl ?_
                refine WS.pseq rfl ?_
                refine WS.pregion rfl ?_
                refine WS.po (tb := tb) rfl rfl rfl rfl rfl ?_
                refine WS.po (tb := tb) rfl rfl rfl rfl rfl ?_
                refine WS.poDT (tb := tb) rfl rfl rfl rfl rfl (by omega) ?_
                refine WS.pend rfl ?_
                refine WS.pcondT rfl rfl ?_
                refine WS.pskip rfl ?_
                refine WS.pseq rfl ?_
                refine WS.pblock rfl ?_
                refine WS.pseq rfl ?_
                refine WS.pregion rfl ?_
                refine WS.po (tb := tb) rfl rfl rfl rfl rfl ?_
                refine WS.po (tb := tb) rfl rfl rfl rfl rfl ?_
                refine WS.pcallM (tb := tb) [1,2,3,4] G rfl rfl rfl rfl rfl (by (try simp only [mapL, mapV, List.getD_cons_zero, List.getD_cons_succ]); exact rfl) (by simp [okL, okV, rmR, tsR, trR, arR, oI]; fail_if_success exfalso) rfl (by simp [embP, okL, okV, mapL, mapV, mem_next, mem_get, mem_ro, mapL_cellsR, okL_cellsR, rmR, tsR, trR, arR, oI]; fail_if_success exfalso) rfl ?_; rintro _ _ ⟨rfl, rfl⟩ -; simp only [plugL, setsL, newsL, isOwn, ownB, over, mapL, mapV, List.getD_cons_zero, List.getD_cons_succ, List.set_cons_zero, List.set_cons_succ, List.length_cons, List.length_nil, Nat.reduceAdd, Nat.reduceLT, Nat.zero_add, if_true, if_false, Nat.reduceSub, reduceIte, List.map_cons, List.map_nil, List.append_nil, List.cons_append, List.nil_append, mapL_cellsR, Nat.lt_irrefl, Nat.not_lt_zero, Nat.zero_lt_succ, Nat.lt_add_one, rmR, tsR, trR, arR, oI]
                refine WS.po (tb := tb) rfl rfl rfl rfl rfl ?_
                refine WS.po (tb := tb) rfl rfl rfl rfl rfl ?_
                refine WS.po (tb := tb) rfl rfl rfl rfl rfl ?_
                refine WS.po (tb := tb) rfl rfl rfl rfl rfl ?_
                refine WS.po (tb := tb) rfl rfl rfl rfl rfl ?_
                refine WS.pend rfl ?_
                refine WS.pseq rfl ?_
                refine WS.pregion rfl ?_
                refine WS.po (tb := tb) rfl rfl rfl rfl rfl ?_
                refine WS.po (tb := tb) rfl rfl rfl rfl rfl ?_
                refine WS.poDT (tb := tb) rfl rfl rfl rfl rfl (by omega) ?_
                refine WS.po (tb := tb) rfl rfl rfl rfl rfl ?_
                refine WS.po (tb := tb) rfl rfl rfl rfl rfl ?_
                refine WS.po (tb := tb) rfl rfl rfl rfl rfl ?_
                refine WS.po (tb := tb) rfl rfl rfl rfl rfl ?_
                refine WS.poW (tb := tb) rfl rfl rfl rfl rfl (by simp only [lo]; omega) (by simp only [Am.hi]; omega) ?_
                refine WS.poDF (tb := tb) rfl rfl rfl rfl rfl (by omega) ?_
                refine WS.po (tb := tb) rfl rfl rfl rfl rfl ?_
                refine WS.po (tb := tb) rfl rfl rfl rfl rfl ?_
                refine WS.pend rfl ?_
                refine WS.pseq rfl ?_
                refine WS.pregion rfl ?_
                refine WS.po (tb := tb) rfl rfl rfl rfl rfl ?_
                refine WS.po (tb := tb) rfl rfl rfl rfl rfl ?_
                refine WS.pono rfl rfl rfl rfl ?_
                refine WS.po (tb := tb) rfl rfl rfl rfl rfl ?_
                refine WS.po (tb := tb) rfl rfl rfl rfl rfl ?_
                refine WS.po (tb := tb) rfl rfl rfl rfl rfl ?_
                refine WS.poB (tb := tb) true rfl rfl rfl rfl rfl rfl ?_
                refine WS.po (tb := tb) rfl rfl rfl rfl rfl ?_
                refine WS.po (tb := tb) rfl rfl rfl rfl rfl ?_
                refine WS.po (tb := tb) rfl rfl rfl rfl rfl ?_
                refine WS.po (tb := tb) rfl rfl rfl rfl rfl ?_
                refine WS.poP (tb := tb) rfl rfl rfl rfl (step_P (evP_index rfl rfl rfl rfl rfl rfl (by omega))) (by simp only [Nat.zero_add, Nat.add_zero, Nat.reduceAdd, Nat.reduceMul, Nat.add_assoc, Nat.mul_one]; exact rfl) ?_
                refine WS.po (tb := tb) rfl rfl rfl rfl (step_R rfl (evR_load rfl rfl rfl rfl (cellsI_get ht))) ?_
                refine WS.poDT (tb := tb) rfl rfl rfl rfl rfl (by omega) ?_
                refine WS.poB (tb := tb) false rfl rfl rfl rfl rfl rfl ?_
                refine WS.po (tb := tb) rfl rfl rfl rfl rfl ?_
                refine WS.po (tb := tb) rfl rfl rfl rfl rfl ?_
                refine WS.po (tb := tb) rfl rfl rfl rfl rfl ?_
                refine WS.po (tb := tb) rfl rfl rfl rfl rfl ?_
                refine WS.po (tb := tb) rfl rfl rfl rfl rfl ?_
                refine WS.po (tb := tb) rfl rfl rfl rfl rfl ?_
                refine WS.poP (tb := tb) rfl rfl rfl rfl (step_P (evP_index rfl rfl rfl rfl rfl rfl (by omega))) (by simp only [Nat.zero_add, Nat.add_zero, Nat.reduceAdd, Nat.reduceMul, Nat.add_assoc, Nat.mul_one]; exact rfl) ?_
                refine WS.po (tb := tb) rfl rfl rfl rfl (step_R rfl (evR_load rfl rfl rfl rfl (cellsI_get ht))) ?_
                refine WS.poNF (tb := tb) rfl rfl rfl rfl rfl (by omega) ?_
                refine WS.po (tb := tb) rfl rfl rfl rfl rfl ?_
                refine WS.po (tb := tb) rfl rfl rfl rfl rfl ?_
                refine WS.po (tb := tb) rfl rfl rfl rfl rfl ?_
                refine WS.po (tb := tb) rfl rfl rfl rfl rfl ?_
                refine WS.pend rfl ?_
                refine WS.pcondF rfl rfl ?_
                refine WS.pskip rfl ?_
                refine WS.pregion rfl ?_
                refine WS.po (tb := tb) rfl rfl rfl rfl rfl ?_
                refine WS.poW (tb := tb) rfl rfl rfl rfl rfl (by simp only [lo]; omega) (by simp only [Am.hi]; omega) ?_
                refine WS.po (tb := tb) rfl rfl rfl rfl rfl ?_
                refine WS.pend rfl ?_
                refine WS.nil ?_
                exact ⟨i + 1, by omega, by omega, (SeenBy.seen (v := [0,1,2,3,4,5]) ⟨rfl, rfl, (by simp [viewP, okL, okV, mapL, mapV, mem_get, mapL_cellsR, okL_cellsR, MC]), (by first | exact rfl | exact own2_dist rfl rfl), (by simp only [slotsP, okV, okL, mapV, mapL, and_true, true_and, List.length_cons, List.length_nil, List.length_append, List.length_map, Nat.reduceAdd, Nat.reduceLT, MC]; repeat' (first | exact rfl | refine ⟨?_, ?_⟩ | exact lk_m rfl (hmp _ rfl) | exact lk_m rfl (hmp2 _ rfl) | exact hok _ (Nat.le_of_ble_eq_true rfl) | exact hok2 _ (Nat.le_of_ble_eq_true rfl) | exact lk_i rfl (by omega) | exact lk_sl rfl (by omega) (by omega) (by omega) | decide | omega))⟩)⟩
        · obtain rfl : i = cap := by omega
          refine WS.pseq rfl ?_
          refine WS.pseq rfl ?_
          refine WS.pregion rfl ?_
          refine WS.po (tb := tb) rfl rfl rfl rfl rfl ?_
          refine WS.po (tb := tb) rfl rfl rfl rfl rfl ?_
          refine WS.poDF (tb := tb) rfl rfl rfl rfl rfl (by omega) ?_
          refine WS.pend rfl ?_
          refine WS.pcondF rfl rfl ?_
          refine WS.pout rfl rfl ?_
          exact ⟨rfl, (), trivial, (SeenBy.seen (v := [0,1,2,3,4,5]) ⟨rfl, rfl, (by simp [viewP, okL, okV, mapL, mapV, mem_get, mapL_cellsR, okL_cellsR, MC]), (by first | exact rfl | exact own2_dist rfl rfl), (by simp only [slotsP, okV, okL, mapV, mapL, and_true, true_and, List.length_cons, List.length_nil, List.length_append, List.length_map, Nat.reduceAdd, Nat.reduceLT, MC]; repeat' (first | exact rfl | refine ⟨?_, ?_⟩ | exact lk_m rfl (hmp _ rfl) | exact lk_m rfl (hmp2 _ rfl) | exact hok _ (Nat.le_of_ble_eq_true rfl) | exact hok2 _ (Nat.le_of_ble_eq_true rfl) | exact lk_i rfl (by omega) | exact lk_sl rfl (by omega) (by omega) (by omega) | decide | omega))⟩)⟩
      · rintro _ -
        have hr0 : rgt cap 0 cap = true := by simp only [rgt, decide_eq_true_eq]; omega
        have C3 := clr_all 0 cap H2 h2
        rw [if_pos hr0] at C3
        obtain ⟨H3, E3⟩ := clrT_ok 0 cap H2 h2
        generalize clrT cap u 0 cap = w at *
        have hnil : runsT w.T = [] := nf_nil H3.nf fun x p hpg => by
          have := (E3 x p).1 hpg
          obtain ⟨r, hr9, c⟩ := hpg
          have c1 := c.1; have c2 := c.2.1
          have rg := H3.nf.rg r hr9
          rw [if_pos ⟨hr0, by have := rg.a0; omega, by have := rg.e1; omega⟩] at this
          exact this
        have hn0 : w.n = 0 := by have := runsT_len w.T; rw [hnil] at this; exact this.symm
        have K := rcount_walk cap 512 w
        have A := rarena_walk cap 512 w
        have V := ar_live_is w.ps w.fr w.n
        simp only [hn0] at K V
        simp only [MC, List.cons_append, List.nil_append]
        refine WS.pseq rfl ?_
        refine WS.pregion rfl ?_
        refine WS.po (tb := tb) rfl rfl rfl rfl rfl ?_
        refine WS.po (tb := tb) rfl rfl rfl rfl rfl ?_
        refine WS.pcallM (tb := tb) [1,2,3,4] C3 rfl rfl rfl rfl rfl (by (try simp only [mapL, mapV, List.getD_cons_zero, List.getD_cons_succ]); exact rfl) (by simp [okL, okV, rmM, tsM, trM, arM, rmR, tsR, trR, arR, hn0]; fail_if_success exfalso) rfl (by simp [embP, okL, okV, mapL, mapV, mem_next, mem_get, mem_ro, mapL_cellsR, okL_cellsR, rmM, tsM, trM, arM, rmR, tsR, trR, arR, hn0]; fail_if_success exfalso) rfl ?_; rintro _ _ ⟨rfl, rfl⟩ -; simp only [plugL, setsL, newsL, isOwn, ownB, over, mapL, mapV, List.getD_cons_zero, List.getD_cons_succ, List.set_cons_zero, List.set_cons_succ, List.length_cons, List.length_nil, Nat.reduceAdd, Nat.reduceLT, Nat.zero_add, if_true, if_false, Nat.reduceSub, reduceIte, List.map_cons, List.map_nil, List.append_nil, List.cons_append, List.nil_append, mapL_cellsR, Nat.lt_irrefl, Nat.not_lt_zero, Nat.zero_lt_succ, Nat.lt_add_one, rmM, tsM, trM, arM, rmR, tsR, trR, arR, hn0]
        refine WS.poB (tb := tb) true rfl rfl rfl rfl rfl rfl ?_
        refine WS.po (tb := tb) rfl rfl rfl rfl rfl ?_
        refine WS.po (tb := tb) rfl rfl rfl rfl rfl ?_
        refine WS.pcallM (tb := tb) [1,2,3,4] K rfl rfl rfl rfl rfl (by (try simp only [mapL, mapV, List.getD_cons_zero, List.getD_cons_succ]); exact rfl) (by simp [okL, okV, rmM, tsM, trM, arM, rmR, tsR, trR, arR, hn0]; fail_if_success exfalso) rfl (by simp [embP, okL, okV, mapL, mapV, mem_next, mem_get, mem_ro, mapL_cellsR, okL_cellsR, rmM, tsM, trM, arM, rmR, tsR, trR, arR, hn0]; fail_if_success exfalso) rfl ?_; rintro _ _ ⟨rfl, rfl⟩ -; simp only [plugL, setsL, newsL, isOwn, ownB, over, mapL, mapV, List.getD_cons_zero, List.getD_cons_succ, List.set_cons_zero, List.set_cons_succ, List.length_cons, List.length_nil, Nat.reduceAdd, Nat.reduceLT, Nat.zero_add, if_true, if_false, Nat.reduceSub, reduceIte, List.map_cons, List.map_nil, List.append_nil, List.cons_append, List.nil_append, mapL_cellsR, Nat.lt_irrefl, Nat.not_lt_zero, Nat.zero_lt_succ, Nat.lt_add_one, rmM, tsM, trM, arM, rmR, tsR, trR, arR, hn0]
        refine WS.poB (tb := tb) true rfl rfl rfl rfl rfl rfl ?_
        refine WS.po (tb := tb) rfl rfl rfl rfl rfl ?_
        refine WS.po (tb := tb) rfl rfl rfl rfl rfl ?_
        refine WS.po (tb := tb) rfl rfl rfl rfl rfl ?_
        refine WS.pcallM (tb := tb) [1,2,3,4] A rfl rfl rfl rfl rfl (by (try simp only [mapL, mapV, List.getD_cons_zero, List.getD_cons_succ]); exact rfl) (by simp [okL, okV, rmM, tsM, trM, arM, rmR, tsR, trR, arR, hn0]; fail_if_success exfalso) rfl (by simp [embP, okL, okV, mapL, mapV, mem_next, mem_get, mem_ro, mapL_cellsR, okL_cellsR, rmM, tsM, trM, arM, rmR, tsR, trR, arR, hn0]; fail_if_success exfalso) rfl ?_; rintro _ _ ⟨rfl, rfl⟩ -; simp only [plugL, setsL, newsL, isOwn, ownB, over, mapL, mapV, List.getD_cons_zero, List.getD_cons_succ, List.set_cons_zero, List.set_cons_succ, List.length_cons, List.length_nil, Nat.reduceAdd, Nat.reduceLT, Nat.zero_add, if_true, if_false, Nat.reduceSub, reduceIte, List.map_cons, List.map_nil, List.append_nil, List.cons_append, List.nil_append, mapL_cellsR, Nat.lt_irrefl, Nat.not_lt_zero, Nat.zero_lt_succ, Nat.lt_add_one, rmM, tsM, trM, arM, rmR, tsR, trR, arR, hn0]
        refine WS.pcallM (tb := tb) [1,2] V rfl rfl rfl rfl rfl (by (try simp only [mapL, mapV, List.getD_cons_zero, List.getD_cons_succ]); exact rfl) (by simp [okL, okV, rmM, tsM, trM, arM, rmR, tsR, trR, arR, hn0]; fail_if_success exfalso) rfl (by simp [embP, okL, okV, mapL, mapV, mem_next, mem_get, mem_ro, mapL_cellsR, okL_cellsR, rmM, tsM, trM, arM, rmR, tsR, trR, arR, hn0]; fail_if_success exfalso) rfl ?_; rintro _ _ ⟨rfl, rfl⟩ -; simp only [plugL, setsL, newsL, isOwn, ownB, over, mapL, mapV, List.getD_cons_zero, List.getD_cons_succ, List.set_cons_zero, List.set_cons_succ, List.length_cons, List.length_nil, Nat.reduceAdd, Nat.reduceLT, Nat.zero_add, if_true, if_false, Nat.reduceSub, reduceIte, List.map_cons, List.map_nil, List.append_nil, List.cons_append, List.nil_append, mapL_cellsR, Nat.lt_irrefl, Nat.not_lt_zero, Nat.zero_lt_succ, Nat.lt_add_one, rmM, tsM, trM, arM, rmR, tsR, trR, arR, hn0]
        refine WS.poB (tb := tb) true rfl rfl rfl rfl rfl rfl ?_
        refine WS.po (tb := tb) rfl rfl rfl rfl rfl ?_
        refine WS.po (tb := tb) rfl rfl rfl rfl rfl ?_
        refine WS.pend rfl ?_
        refine WS.pret rfl ⟨.inr rfl, _, rfl, ?_⟩
        exact ⟨_, rfl, rfl⟩
theorem cleared_bad (z : Int) (l : List Act) (a : Option (Nat × Nat)) (c : Nat) (lba n : Int) (h : z < 1 ∨ 512 < z) : FM Try.prog 5 [.i .i64 z, .sl a l.length c false, .i .i64 lba, .i .i64 n] [some ⟨cellsR rwAct l, 32, false⟩] (fun v _ => v = .b true) := by
  refine FM.pbody (tb := tb) (fn := Try.f5) rfl rfl ?_
  simp only [argS, Nat.reduceAdd, List.length_cons, List.length_nil]
  refine WS.pseq rfl ?_
  refine WS.pregion rfl ?_
  refine WS.po (tb := tb) rfl rfl rfl rfl rfl ?_
  refine WS.pend rfl ?_
  refine WS.pseq rfl ?_
  refine WS.pseq rfl ?_
  refine WS.pregion rfl ?_
  refine WS.pcallM (tb := tb) [] awake_fm rfl rfl rfl rfl rfl (by (try simp only [mapL, mapV, List.getD_cons_zero, List.getD_cons_succ]); exact rfl) (by simp [okL, okV]; fail_if_success exfalso) rfl (by simp [embP, okL, okV, mapL, mapV, mem_next, mem_get, mem_ro, mapL_cellsR, okL_cellsR]; fail_if_success exfalso) rfl ?_; rintro _ _ ⟨rfl, rfl⟩ -; simp only [plugL, setsL, newsL, isOwn, ownB, over, mapL, mapV, List.getD_cons_zero, List.getD_cons_succ, List.set_cons_zero, List.set_cons_succ, List.length_cons, List.length_nil, Nat.reduceAdd, Nat.reduceLT, Nat.zero_add, if_true, if_false, Nat.reduceSub, reduceIte, List.map_cons, List.map_nil, List.append_nil, List.cons_append, List.nil_append, mapL_cellsR, Nat.lt_irrefl, Nat.not_lt_zero, Nat.zero_lt_succ, Nat.lt_add_one]
  refine WS.poB (tb := tb) false rfl rfl rfl rfl rfl rfl ?_
  refine WS.pend rfl ?_
  refine WS.pcondF rfl rfl ?_
  refine WS.pskip rfl ?_
  refine WS.pseq rfl ?_
  refine WS.pregion rfl ?_
  refine WS.po (tb := tb) rfl rfl rfl rfl rfl ?_
  refine WS.pcallM (tb := tb) [] (rnew_bad z 512 (by omega)) rfl rfl rfl rfl rfl (by (try simp only [mapL, mapV, List.getD_cons_zero, List.getD_cons_succ]); exact rfl) (by simp [okL, okV]; fail_if_success exfalso) rfl (by simp [embP, okL, okV, mapL, mapV, mem_next, mem_get, mem_ro, mapL_cellsR, okL_cellsR]; fail_if_success exfalso) rfl ?_; rintro _ _ ⟨rfl, rfl⟩ -; simp only [plugL, setsL, newsL, isOwn, ownB, over, mapL, mapV, List.getD_cons_zero, List.getD_cons_succ, List.set_cons_zero, List.set_cons_succ, List.length_cons, List.length_nil, Nat.reduceAdd, Nat.reduceLT, Nat.zero_add, if_true, if_false, Nat.reduceSub, reduceIte, List.map_cons, List.map_nil, List.append_nil, List.cons_append, List.nil_append, mapL_cellsR, Nat.lt_irrefl, Nat.not_lt_zero, Nat.zero_lt_succ, Nat.lt_add_one]
  refine WS.po (tb := tb) rfl rfl rfl rfl rfl ?_
  refine WS.po (tb := tb) rfl rfl rfl rfl rfl ?_
  refine WS.po (tb := tb) rfl rfl rfl rfl rfl ?_
  refine WS.po (tb := tb) rfl rfl rfl rfl rfl ?_
  refine WS.po (tb := tb) rfl rfl rfl rfl rfl ?_
  refine WS.pend rfl ?_
  refine WS.pseq rfl ?_
  refine WS.pseq rfl ?_
  refine WS.pregion rfl ?_
  refine WS.po (tb := tb) rfl rfl rfl rfl rfl ?_
  refine WS.poB (tb := tb) true rfl rfl rfl rfl rfl rfl ?_
  refine WS.po (tb := tb) rfl rfl rfl rfl rfl ?_
  refine WS.pono rfl rfl rfl rfl ?_
  refine WS.pono rfl rfl rfl rfl ?_
  refine WS.pono rfl rfl rfl rfl ?_
  refine WS.po (tb := tb) rfl rfl rfl rfl rfl ?_
  refine WS.po (tb := tb) rfl rfl rfl rfl rfl ?_
  refine WS.pono rfl rfl rfl rfl ?_
  refine WS.pono rfl rfl rfl rfl ?_
  refine WS.pono rfl rfl rfl rfl ?_
  refine WS.pono rfl rfl rfl rfl ?_
  refine WS.pono rfl rfl rfl rfl ?_
  refine WS.po (tb := tb) rfl rfl rfl rfl rfl ?_
  refine WS.pend rfl ?_
  refine WS.pcondT rfl rfl ?_
  refine WS.pseq rfl ?_
  refine WS.pregion rfl ?_
  refine WS.po (tb := tb) rfl rfl rfl rfl rfl ?_
  refine WS.pend rfl ?_
  refine WS.pret rfl ⟨.inr rfl, _, rfl, ?_⟩
  exact ⟨_, rfl, rfl⟩
theorem cleared_far (cap : Nat) (l : List Act) (a : Option (Nat × Nat)) (c : Nat) (lba n : Int) (h1 : 1 ≤ cap) (h2 : cap ≤ 512) (h : 30 < l.length ∨ rgt cap lba n = false) (hl : l.length ≤ 9223372036854775807) : FM Try.prog 5 [.i .i64 cap, .sl a l.length c false, .i .i64 lba, .i .i64 n] [some ⟨cellsR rwAct l, 32, false⟩] (fun v _ => v = .b true) := by
  have R := refRight_walk cap lba n (by omega) (by omega)
  refine FM.pbody (tb := tb) (fn := Try.f5) rfl rfl ?_
  simp only [argS, Nat.reduceAdd, List.length_cons, List.length_nil]
  by_cases hlen : 30 < l.length
  · refine WS.pseq rfl ?_
    refine WS.pregion rfl ?_
    refine WS.po (tb := tb) rfl rfl rfl rfl rfl ?_
    refine WS.pend rfl ?_
    refine WS.pseq rfl ?_
    refine WS.pseq rfl ?_
    refine WS.pregion rfl ?_
    refine WS.pcallM (tb := tb) [] awake_fm rfl rfl rfl rfl rfl (by (try simp only [mapL, mapV, List.getD_cons_zero, List.getD_cons_succ]); exact rfl) (by simp [okL, okV, rmM, tsM, trM, arM]; fail_if_success exfalso) rfl (by simp [embP, okL, okV, mapL, mapV, mem_next, mem_get, mem_ro, mapL_cellsR, okL_cellsR, rmM, tsM, trM, arM]; fail_if_success exfalso) rfl ?_; rintro _ _ ⟨rfl, rfl⟩ -; simp only [plugL, setsL, newsL, isOwn, ownB, over, mapL, mapV, List.getD_cons_zero, List.getD_cons_succ, List.set_cons_zero, List.set_cons_succ, List.length_cons, List.length_nil, Nat.reduceAdd, Nat.reduceLT, Nat.zero_add, if_true, if_false, Nat.reduceSub, reduceIte, List.map_cons, List.map_nil, List.append_nil, List.cons_append, List.nil_append, mapL_cellsR, Nat.lt_irrefl, Nat.not_lt_zero, Nat.zero_lt_succ, Nat.lt_add_one, rmM, tsM, trM, arM]
    refine WS.poB (tb := tb) false rfl rfl rfl rfl rfl rfl ?_
    refine WS.pend rfl ?_
    refine WS.pcondF rfl rfl ?_
    refine WS.pskip rfl ?_
    refine WS.pseq rfl ?_
    refine WS.pregion rfl ?_
    refine WS.po (tb := tb) rfl rfl rfl rfl rfl ?_
    refine WS.pcallM (tb := tb) [] (rnew_ok cap 512 h1 h2 (by omega) (by omega)) rfl rfl rfl rfl rfl (by (try simp only [mapL, mapV, List.getD_cons_zero, List.getD_cons_succ]); exact rfl) (by simp [okL, okV, rmM, tsM, trM, arM]; fail_if_success exfalso) rfl (by simp [embP, okL, okV, mapL, mapV, mem_next, mem_get, mem_ro, mapL_cellsR, okL_cellsR, rmM, tsM, trM, arM]; fail_if_success exfalso) rfl ?_; rintro _ _ ⟨rfl, rfl⟩ -; simp only [plugL, setsL, newsL, isOwn, ownB, over, mapL, mapV, List.getD_cons_zero, List.getD_cons_succ, List.set_cons_zero, List.set_cons_succ, List.length_cons, List.length_nil, Nat.reduceAdd, Nat.reduceLT, Nat.zero_add, if_true, if_false, Nat.reduceSub, reduceIte, List.map_cons, List.map_nil, List.append_nil, List.cons_append, List.nil_append, mapL_cellsR, Nat.lt_irrefl, Nat.not_lt_zero, Nat.zero_lt_succ, Nat.lt_add_one, rmM, tsM, trM, arM]
    refine WS.po (tb := tb) rfl rfl rfl rfl rfl ?_
    refine WS.po (tb := tb) rfl rfl rfl rfl rfl ?_
    refine WS.po (tb := tb) rfl rfl rfl rfl rfl ?_
    refine WS.po (tb := tb) rfl rfl rfl rfl rfl ?_
    refine WS.po (tb := tb) rfl rfl rfl rfl rfl ?_
    refine WS.pend rfl ?_
    refine WS.pseq rfl ?_
    refine WS.pseq rfl ?_
    refine WS.pregion rfl ?_
    refine WS.po (tb := tb) rfl rfl rfl rfl rfl ?_
    refine WS.poB (tb := tb) false rfl rfl rfl rfl rfl rfl ?_
    refine WS.po (tb := tb) rfl rfl rfl rfl rfl ?_
    refine WS.po (tb := tb) rfl rfl rfl rfl rfl ?_
    refine WS.po (tb := tb) rfl rfl rfl rfl rfl ?_
    refine WS.poDT (tb := tb) rfl rfl rfl rfl rfl (by omega) ?_
    refine WS.po (tb := tb) rfl rfl rfl rfl rfl ?_
    refine WS.po (tb := tb) rfl rfl rfl rfl rfl ?_
    refine WS.pono rfl rfl rfl rfl ?_
    refine WS.pono rfl rfl rfl rfl ?_
    refine WS.pono rfl rfl rfl rfl ?_
    refine WS.pono rfl rfl rfl rfl ?_
    refine WS.pono rfl rfl rfl rfl ?_
    refine WS.po (tb := tb) rfl rfl rfl rfl rfl ?_
    refine WS.pend rfl ?_
    refine WS.pcondT rfl rfl ?_
    refine WS.pseq rfl ?_
    refine WS.pregion rfl ?_
    refine WS.po (tb := tb) rfl rfl rfl rfl rfl ?_
    refine WS.pend rfl ?_
    refine WS.pret rfl ⟨.inr rfl, _, rfl, ?_⟩
    exact ⟨_, rfl, rfl⟩
  · have hr : rgt cap lba n = false := by rcases h with h | h; omega; exact h
    rw [hr] at R
    refine WS.pseq rfl ?_
    refine WS.pregion rfl ?_
    refine WS.po (tb := tb) rfl rfl rfl rfl rfl ?_
    refine WS.pend rfl ?_
    refine WS.pseq rfl ?_
    refine WS.pseq rfl ?_
    refine WS.pregion rfl ?_
    refine WS.pcallM (tb := tb) [] awake_fm rfl rfl rfl rfl rfl (by (try simp only [mapL, mapV, List.getD_cons_zero, List.getD_cons_succ]); exact rfl) (by simp [okL, okV, rmM, tsM, trM, arM]; fail_if_success exfalso) rfl (by simp [embP, okL, okV, mapL, mapV, mem_next, mem_get, mem_ro, mapL_cellsR, okL_cellsR, rmM, tsM, trM, arM]; fail_if_success exfalso) rfl ?_; rintro _ _ ⟨rfl, rfl⟩ -; simp only [plugL, setsL, newsL, isOwn, ownB, over, mapL, mapV, List.getD_cons_zero, List.getD_cons_succ, List.set_cons_zero, List.set_cons_succ, List.length_cons, List.length_nil, Nat.reduceAdd, Nat.reduceLT, Nat.zero_add, if_true, if_false, Nat.reduceSub, reduceIte, List.map_cons, List.map_nil, List.append_nil, List.cons_append, List.nil_append, mapL_cellsR, Nat.lt_irrefl, Nat.not_lt_zero, Nat.zero_lt_succ, Nat.lt_add_one, rmM, tsM, trM, arM]
    refine WS.poB (tb := tb) false rfl rfl rfl rfl rfl rfl ?_
    refine WS.pend rfl ?_
    refine WS.pcondF rfl rfl ?_
    refine WS.pskip rfl ?_
    refine WS.pseq rfl ?_
    refine WS.pregion rfl ?_
    refine WS.po (tb := tb) rfl rfl rfl rfl rfl ?_
    refine WS.pcallM (tb := tb) [] (rnew_ok cap 512 h1 h2 (by omega) (by omega)) rfl rfl rfl rfl rfl (by (try simp only [mapL, mapV, List.getD_cons_zero, List.getD_cons_succ]); exact rfl) (by simp [okL, okV, rmM, tsM, trM, arM]; fail_if_success exfalso) rfl (by simp [embP, okL, okV, mapL, mapV, mem_next, mem_get, mem_ro, mapL_cellsR, okL_cellsR, rmM, tsM, trM, arM]; fail_if_success exfalso) rfl ?_; rintro _ _ ⟨rfl, rfl⟩ -; simp only [plugL, setsL, newsL, isOwn, ownB, over, mapL, mapV, List.getD_cons_zero, List.getD_cons_succ, List.set_cons_zero, List.set_cons_succ, List.length_cons, List.length_nil, Nat.reduceAdd, Nat.reduceLT, Nat.zero_add, if_true, if_false, Nat.reduceSub, reduceIte, List.map_cons, List.map_nil, List.append_nil, List.cons_append, List.nil_append, mapL_cellsR, Nat.lt_irrefl, Nat.not_lt_zero, Nat.zero_lt_succ, Nat.lt_add_one, rmM, tsM, trM, arM]
    refine WS.po (tb := tb) rfl rfl rfl rfl rfl ?_
    refine WS.po (tb := tb) rfl rfl rfl rfl rfl ?_
    refine WS.po (tb := tb) rfl rfl rfl rfl rfl ?_
    refine WS.po (tb := tb) rfl rfl rfl rfl rfl ?_
    refine WS.po (tb := tb) rfl rfl rfl rfl rfl ?_
    refine WS.pend rfl ?_
    refine WS.pseq rfl ?_
    refine WS.pseq rfl ?_
    refine WS.pregion rfl ?_
    refine WS.po (tb := tb) rfl rfl rfl rfl rfl ?_
    refine WS.poB (tb := tb) false rfl rfl rfl rfl rfl rfl ?_
    refine WS.po (tb := tb) rfl rfl rfl rfl rfl ?_
    refine WS.po (tb := tb) rfl rfl rfl rfl rfl ?_
    refine WS.po (tb := tb) rfl rfl rfl rfl rfl ?_
    refine WS.poDF (tb := tb) rfl rfl rfl rfl rfl (by omega) ?_
    refine WS.po (tb := tb) rfl rfl rfl rfl rfl ?_
    refine WS.po (tb := tb) rfl rfl rfl rfl rfl ?_
    refine WS.po (tb := tb) rfl rfl rfl rfl rfl ?_
    refine WS.po (tb := tb) rfl rfl rfl rfl rfl ?_
    refine WS.po (tb := tb) rfl rfl rfl rfl rfl ?_
    refine WS.pcallM (tb := tb) [] R rfl rfl rfl rfl rfl (by (try simp only [mapL, mapV, List.getD_cons_zero, List.getD_cons_succ]); exact rfl) (by simp [okL, okV, rmM, tsM, trM, arM]; fail_if_success exfalso) rfl (by simp [embP, okL, okV, mapL, mapV, mem_next, mem_get, mem_ro, mapL_cellsR, okL_cellsR, rmM, tsM, trM, arM]; fail_if_success exfalso) rfl ?_; rintro _ _ ⟨rfl, rfl⟩ -; simp only [plugL, setsL, newsL, isOwn, ownB, over, mapL, mapV, List.getD_cons_zero, List.getD_cons_succ, List.set_cons_zero, List.set_cons_succ, List.length_cons, List.length_nil, Nat.reduceAdd, Nat.reduceLT, Nat.zero_add, if_true, if_false, Nat.reduceSub, reduceIte, List.map_cons, List.map_nil, List.append_nil, List.cons_append, List.nil_append, mapL_cellsR, Nat.lt_irrefl, Nat.not_lt_zero, Nat.zero_lt_succ, Nat.lt_add_one, rmM, tsM, trM, arM]
    refine WS.poB (tb := tb) true rfl rfl rfl rfl rfl rfl ?_
    refine WS.po (tb := tb) rfl rfl rfl rfl rfl ?_
    refine WS.pend rfl ?_
    refine WS.pcondT rfl rfl ?_
    refine WS.pseq rfl ?_
    refine WS.pregion rfl ?_
    refine WS.po (tb := tb) rfl rfl rfl rfl rfl ?_
    refine WS.pend rfl ?_
    refine WS.pret rfl ⟨.inr rfl, _, rfl, ?_⟩
    exact ⟨_, rfl, rfl⟩
theorem cleared_calls (z : Int) (a : Option Addr) (c : Nat) (l : List Act) (lba n : Int) (W : World) (_ : (Lit.int .i64 z).wf = true) (hr : RowIn W a (cellsR rwAct l)) (hc : l.length ≤ c) (hm' : l.length ≤ maxLen) {p : Act → Prop} (_ : ∀ y ∈ l, p y) (_ : (Lit.int .i64 lba).wf = true) (_ : (Lit.int .i64 n).wf = true) :
    Calls Try.prog 5 #[.int .i64 z, .slice a l.length c, .int .i64 lba, .int .i64 n] W (fun e w' => e = .returned (.bool true) ∧ Go.RowKit.Below W.heap.size W w') := by
  have hm : l.length ≤ 9223372036854775807 := Nat.le_trans hm' (by decide)
  have key : FM Try.prog 5 [.i .i64 z, .sl (argA a 0) l.length c false, .i .i64 lba, .i .i64 n] [some ⟨cellsR rwAct l, 32, false⟩] (fun v _ => v = .b true) := by
    by_cases h : z < 1 ∨ 512 < z
    · exact cleared_bad z l _ c lba n h
    · obtain ⟨m, rfl⟩ : ∃ n : Nat, z = n := ⟨z.toNat, by omega⟩
      by_cases h2 : 30 < l.length
      · exact cleared_far m l _ c lba n (by omega) (by omega) (.inl h2) hm
      · cases h3 : rgt m lba n with
        | false => exact cleared_far m l _ c lba n (by omega) (by omega) (.inr h3) hm
        | true => exact cleared_main m l _ c lba n (by omega) (by omega) (by omega) h3 (argA_or a 0) (fun h3 => argA_some hr (by rw [Act_len]; omega) 0)
  have := FM.topR [(a, cellsR rwAct l, 32)] key ⟨trivial, by cases a <;> simp [argA, okV], trivial, trivial, trivial⟩ W (fun x hx => by
    rcases List.mem_singleton.1 hx with rfl
    exact ⟨hr, okL_cellsR 0 rwAct l⟩)
  simp only [conL, con_argA [(a, cellsR rwAct l, 32)] 0 (a, cellsR rwAct l, 32) rfl] at this
  exact this
end Go.Proofs.Ytdeeancepelkiaa.Am

