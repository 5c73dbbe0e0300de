/- TreeHigh answers true for any numbers, in every world. No conditions. -/
import Derived.Test.YtpogfelbimcglaaTh1
namespace Go.Proofs.Ytpogfelbimcglaa.Am
open Go.Proofs
set_option maxRecDepth 1000000
set_option maxHeartbeats 4000000
set_option linter.unusedSimpArgs false
set_option linter.unusedVariables false
/-- The tree behind i runs. -/
structure InvH (n : Nat) (step : Nat) (i : Nat) (s : TS) : Prop where
  le : i ≤ n
  ok : TOk n s
  cnt : s.n = i
  has : ∀ k, Has s k → ∃ j : Nat, j < i ∧ k = ((j * step % 1009 : Nat) : Int)
theorem InvH.step {n step i : Nat} {s : TS} (H : InvH n step i s) (hi : i < n) (hn : n ≤ 300) (h1 : 0 < step) (h2 : step ≤ 1000) :
    insE n s ((i * step % 1009 : Nat) : Int) = 0 ∧ InvH n step (i + 1) (insK n s ((i * step % 1009 : Nat) : Int) 1 7) := by
  have hg : ¬ (getL ((i * step % 1009 : Nat) : Int) s.T.ino).isSome = true := fun h => by
    obtain ⟨j, hj, e⟩ := H.has _ ((has_iff s _).1 h)
    exact far_keys (s := step) hj (by omega) h1 h2 (by omega)
  have hc := H.cnt
  refine ⟨by rw [insE, if_neg hg, if_pos (by omega)], hi, insK_ok H.ok, ?_, fun k hk => ?_⟩
  · rw [insK, if_neg hg, if_pos (by omega), (insS_ok H.ok (by omega) (by simpa using hg)).2, hc]
  · rcases (has_ins H.ok (by omega) k).1 hk with rfl | hk
    · exact ⟨i, by omega, rfl⟩
    · obtain ⟨j, hj, e⟩ := H.has k hk
      exact ⟨j, by omega, e⟩
/-- What is left of some views. -/
structure InvD (n : Nat) (v : List Vw) (i : Nat) (s : TS) : Prop where
  le : i ≤ v.length
  ok : TOk n s
  cnt : s.n + i = v.length
  has : ∀ k, Has s k ↔ ∃ j x, i ≤ j ∧ v[j]? = some x ∧ x.a = k
theorem InvD.step {n : Nat} {v : List Vw} {i : Nat} {s : TS} {x : Vw} (H : InvD n v i s) (hx : v[i]? = some x) (hv : (v.map Vw.a).Pairwise (· < ·)) : delE s x.a = 0 ∧ InvD n v (i + 1) (delK s x.a) := by
  have hi := (List.getElem?_eq_some_iff.1 hx).1
  have hg : (getL x.a s.T.ino).isSome = true := (has_iff s _).2 ((H.has x.a).2 ⟨i, x, Nat.le_refl _, hx, rfl⟩)
  have hc := H.cnt
  refine ⟨by rw [delE, if_pos hg], hi, delK_ok H.ok, ?_, fun k => ?_⟩
  · have := (delS_ok H.ok hg).2
    rw [delK, if_pos hg]; omega
  · rw [has_del H.ok, H.has]
    have inj : ∀ j y, v[j]? = some y → i < j → x.a < y.a := fun j y hy hj => by
      have l2 := (List.getElem?_eq_some_iff.1 hy).1
      have := List.pairwise_iff_getElem.1 hv i j (by simpa using hi) (by simpa using l2) hj
      simp only [List.getElem_map] at this
      have e1 := (List.getElem?_eq_some_iff.1 hx).2
      have e2 := (List.getElem?_eq_some_iff.1 hy).2
      rw [e1, e2] at this; exact this
    constructor
    · rintro ⟨hne, j, y, hj, hy, e⟩
      refine ⟨j, y, ?_, hy, e⟩
      rcases Nat.lt_or_ge i j with h | h
      · exact h
      · have : j = i := by omega
        subst this
        rw [hx] at hy
        obtain rfl := Option.some.inj hy
        exact absurd e.symm hne
    · rintro ⟨j, y, hj, hy, e⟩
      have := inj j y hy hj
      exact ⟨by omega, j, y, by omega, hy, e⟩
theorem views_srt {s : TS} (h : Srt s.T.ino) : ((viewsT s.T).map Vw.a).Pairwise (· < ·) := by
  rw [views_keys]; exact List.pairwise_map.2 h
theorem invD_0 {n : Nat} {s : TS} (h : TOk n s) : InvD n (viewsT s.T) 0 s := by
  refine ⟨Nat.zero_le _, h, by rw [viewsT_len]; rfl, fun k => ?_⟩
  have hk := views_keys s.T
  constructor
  · rintro ⟨x, hx, e⟩
    have hm : x.a ∈ (viewsT s.T).map Vw.a := by rw [hk]; exact List.mem_map.2 ⟨x, hx, rfl⟩
    obtain ⟨y, hy, e2⟩ := List.mem_map.1 hm
    obtain ⟨j, hj⟩ := List.mem_iff_getElem?.1 hy
    exact ⟨j, y, Nat.zero_le _, hj, e2.trans e⟩
  · rintro ⟨j, y, _, hy, e⟩
    have hm : y.a ∈ s.T.ino.map Nd.a := by rw [← hk]; exact List.mem_map.2 ⟨y, List.mem_of_getElem? hy, rfl⟩
    obtain ⟨x, hx, e2⟩ := List.mem_map.1 hm
    exact ⟨x, hx, e2.trans e⟩
theorem free_all {n : Nat} {s : TS} (h : TOk n s) (hn : 1 ≤ n) (hm : n ≤ 512) (h0 : s.n = 0) : ∃ fl : List Nat, FM Try.prog 24 [.p (some (1,0))] (arM s.ps s.fr s.n) (fun v M' => v = .sl (some (2, 0)) n n true ∧ M' = arM s.ps s.fr s.n ++ [some ⟨cellsR (rwI .u32) (nums fl), 37, true⟩]) := by
  have hl := h.len
  obtain ⟨free, hc, _, hf⟩ := h.free
  refine ⟨free, (free_walk s.ps s.fr s.n free hc (by omega) (by omega)).mono ?_⟩
  rintro v M' (⟨rfl, _, _⟩ | ⟨_, rfl, rfl⟩)
  · simp at hf; omega
  · exact ⟨by rw [show free.length = n by omega], rfl⟩
def MH (s : TS) : List (Option Blk) := tsM s
theorem high_main (n step : Nat) (h1 : 1 ≤ n) (h2 : n ≤ 300) (h3 : 0 < step) (h4 : step ≤ 1000) :
    FM Try.prog 6 [.i .i64 n, .i .i64 step] [] (fun v _ => v = .b true) := by
  refine FM.pbody (tb := tb) (fn := Try.f6) rfl rfl ?_
  simp only [argS, Nat.reduceAdd, List.length_cons, List.length_nil]
  refine WS.pseq rfl ?_
  refine WS.pregion rfl ?_
  refine WS.po (tb := tb) rfl rfl rfl rfl rfl ?_
  refine WS.pend rfl ?_
  refine WS.pseq rfl ?_
  refine WS.pseq rfl ?_
  refine WS.pregion rfl ?_
  refine WS.pcallM (tb := tb) [] awake_fm rfl rfl rfl rfl rfl (by (try simp only [mapL, mapV, List.getD_cons_zero, List.getD_cons_succ]); exact rfl) (by simp [okL, okV, arM, trM]; fail_if_success exfalso) rfl (by simp [embP, okL, okV, mapL, mapV, mem_next, mem_get, mem_ro, mapL_cellsR, okL_cellsR, arM, trM]; fail_if_success exfalso) rfl ?_; rintro _ _ ⟨rfl, rfl⟩ -; simp only [plugL, setsL, newsL, isOwn, ownB, over, mapL, mapV, List.getD_cons_zero, List.getD_cons_succ, List.set_cons_zero, List.set_cons_succ, List.length_cons, List.length_nil, Nat.reduceAdd, Nat.reduceLT, Nat.zero_add, if_true, if_false, Nat.reduceSub, reduceIte, List.map_cons, List.map_nil, List.append_nil, List.cons_append, List.nil_append, mapL_cellsR, Nat.lt_irrefl, Nat.not_lt_zero, Nat.zero_lt_succ, Nat.lt_add_one, arM, trM]
  refine WS.poB (tb := tb) false rfl rfl rfl rfl rfl rfl ?_
  refine WS.pend rfl ?_
  refine WS.pcondF rfl rfl ?_
  refine WS.pskip rfl ?_
  refine WS.pseq rfl ?_
  refine WS.pseq rfl ?_
  refine WS.pregion rfl ?_
  refine WS.po (tb := tb) rfl rfl rfl rfl rfl ?_
  refine WS.poDF (tb := tb) rfl rfl rfl rfl rfl (by omega) ?_
  refine WS.po (tb := tb) rfl rfl rfl rfl rfl ?_
  refine WS.po (tb := tb) rfl rfl rfl rfl rfl ?_
  refine WS.poDF (tb := tb) rfl rfl rfl rfl rfl (by omega) ?_
  refine WS.po (tb := tb) rfl rfl rfl rfl rfl ?_
  refine WS.po (tb := tb) rfl rfl rfl rfl rfl ?_
  refine WS.po (tb := tb) rfl rfl rfl rfl rfl ?_
  refine WS.poDF (tb := tb) rfl rfl rfl rfl rfl (by omega) ?_
  refine WS.po (tb := tb) rfl rfl rfl rfl rfl ?_
  refine WS.po (tb := tb) rfl rfl rfl rfl rfl ?_
  refine WS.po (tb := tb) rfl rfl rfl rfl rfl ?_
  refine WS.poDF (tb := tb) rfl rfl rfl rfl rfl (by omega) ?_
  refine WS.po (tb := tb) rfl rfl rfl rfl rfl ?_
  refine WS.pend rfl ?_
  refine WS.pcondF rfl rfl ?_
  refine WS.pskip rfl ?_
  refine WS.pseq rfl ?_
  refine WS.pregion rfl ?_
  refine WS.po (tb := tb) rfl rfl rfl rfl rfl ?_
  refine WS.pcallM (tb := tb) [] (ar_new_ok n h1 (by omega)) rfl rfl rfl rfl rfl (by (try simp only [mapL, mapV, List.getD_cons_zero, List.getD_cons_succ]); exact rfl) (by simp [okL, okV, arM, trM]; fail_if_success exfalso) rfl (by simp [embP, okL, okV, mapL, mapV, mem_next, mem_get, mem_ro, mapL_cellsR, okL_cellsR, arM, trM]; fail_if_success exfalso) rfl ?_; rintro _ _ ⟨rfl, rfl⟩ -; simp only [plugL, setsL, newsL, isOwn, ownB, over, mapL, mapV, List.getD_cons_zero, List.getD_cons_succ, List.set_cons_zero, List.set_cons_succ, List.length_cons, List.length_nil, Nat.reduceAdd, Nat.reduceLT, Nat.zero_add, if_true, if_false, Nat.reduceSub, reduceIte, List.map_cons, List.map_nil, List.append_nil, List.cons_append, List.nil_append, mapL_cellsR, Nat.lt_irrefl, Nat.not_lt_zero, Nat.zero_lt_succ, Nat.lt_add_one, arM, trM]
  refine WS.po (tb := tb) rfl rfl rfl rfl rfl ?_
  refine WS.po (tb := tb) rfl rfl rfl rfl rfl ?_
  refine WS.po (tb := tb) rfl rfl rfl rfl rfl ?_
  refine WS.po (tb := tb) rfl rfl rfl rfl rfl ?_
  refine WS.po (tb := tb) rfl rfl rfl rfl rfl ?_
  refine WS.pend rfl ?_
  refine WS.pseq rfl ?_
  refine WS.pregion rfl ?_
  refine WS.po (tb := tb) rfl rfl rfl rfl rfl ?_
  refine WS.pcallM (tb := tb) [0,1] (tnew_walk (iniP n n) 1 0) rfl rfl rfl rfl rfl (by (try simp only [mapL, mapV, List.getD_cons_zero, List.getD_cons_succ]); exact rfl) (by simp [okL, okV, arM, trM]; fail_if_success exfalso) rfl (by simp [embP, okL, okV, mapL, mapV, mem_next, mem_get, mem_ro, mapL_cellsR, okL_cellsR, arM, trM]; fail_if_success exfalso) rfl ?_; rintro _ _ ⟨rfl, rfl⟩ -; simp only [plugL, setsL, newsL, isOwn, ownB, over, mapL, mapV, List.getD_cons_zero, List.getD_cons_succ, List.set_cons_zero, List.set_cons_succ, List.length_cons, List.length_nil, Nat.reduceAdd, Nat.reduceLT, Nat.zero_add, if_true, if_false, Nat.reduceSub, reduceIte, List.map_cons, List.map_nil, List.append_nil, List.cons_append, List.nil_append, mapL_cellsR, Nat.lt_irrefl, Nat.not_lt_zero, Nat.zero_lt_succ, Nat.lt_add_one, arM, trM]
  refine WS.po (tb := tb) rfl rfl rfl rfl rfl ?_
  refine WS.pend rfl ?_
  refine WS.pseq rfl ?_
  refine WS.pseq rfl ?_
  refine WS.pregion rfl ?_
  refine WS.po (tb := tb) rfl rfl rfl rfl rfl ?_
  refine WS.pend rfl ?_
  refine WS.pblock rfl ?_
  refine WS.ploopI (σ := Nat × TS) (τ := TS) (fun x => [(0, .i .i64 n), (1, .i .i64 step), (5, .p (some (1,0))), (7, .p (some (2,0))), (8, .i .i64 x.1)]) (fun x => tsM x.2) (fun x => InvH n step x.1 x.2) (fun x => n - x.1)
    (fun _ => [(0, .i .i64 n), (1, .i .i64 step), (5, .p (some (1,0))), (7, .p (some (2,0)))]) (fun x => tsM x) (fun x => InvH n step n x) 0 [0,1,2] (0, ⟨iniP n n, 1, .lf⟩) rfl ⟨Nat.zero_le _, newS_ok n h1, rfl, fun k hk => by obtain ⟨x, hx, _⟩ := hk; simp [Tr.ino] at hx⟩ ⟨rfl, rfl, (by simp [viewP, okL, okV, mapL, mapV, mem_get, mapL_cellsR, okL_cellsR, tsM, trM, arM, TS.n, ids_lf, id_lf]), (by first | exact rfl | exact own2_dist rfl rfl), (by simp only [slotsP, okV, okL, mapV, mapL, and_true, true_and, List.length_cons, List.length_nil, List.length_append, List.length_map, Nat.reduceAdd, Nat.reduceLT, tsM, trM, arM, TS.n, ids_lf, id_lf]; repeat' (first | exact rfl | refine ⟨?_, ?_⟩ | exact lk_m rfl (hmp _ rfl) | exact lk_m rfl (hmp2 _ rfl) | exact hok _ (Nat.le_of_ble_eq_true rfl) | exact hok2 _ (Nat.le_of_ble_eq_true rfl) | exact lk_i rfl (by omega) | exact lk_sl rfl (by omega) (by omega) (by omega) | decide | omega))⟩ rfl ?_ ?_
  · rintro ⟨i, s⟩ H
    dsimp only at H
    simp only [tsM, trM, arM, List.cons_append, List.nil_append]
    by_cases h : i < n
    · obtain ⟨e0, H'⟩ := H.step h h2 h3 h4
      have I1 := ins_any ((i * step % 1009 : Nat) : Int) 1 7 H.ok (by omega)
      rw [e0] at I1
      have hms : i * step ≤ 300 * 1000 := Nat.mul_le_mul (by omega) h4
      have hcast : ((i * step : Nat) : Int) = (i : Int) * step := by push_cast; rfl
      have hk : ((i : Int) * step).tmod 1009 = ((i * step % 1009 : Nat) : Int) := by
        rw [← hcast]; generalize i * step = m; rw [Int.tmod_eq_emod_of_nonneg (by omega)]; omega
      have em : (i : Int) * step ≤ 300 * 1000 := by rw [← hcast]; omega
      have em0 : 0 ≤ (i : Int) * step := by rw [← hcast]; omega
      rw [← hk] at I1 H'
      have hst : ((step : Int).tmod 1009) = step := by rw [Int.tmod_eq_emod_of_nonneg (by omega)]; omega
      refine WS.pseq rfl ?_
      refine WS.pseq rfl ?_
      refine WS.pregion rfl ?_
      refine WS.po (tb := tb) rfl rfl rfl rfl rfl ?_
      refine WS.po (tb := tb) rfl rfl rfl rfl rfl ?_
      refine WS.poDT (tb := tb) rfl rfl rfl rfl rfl (by omega) ?_
      refine WS.pend rfl ?_
      refine WS.pcondT rfl rfl ?_
      refine WS.pskip rfl ?_
      refine WS.pseq rfl ?_
      refine WS.pblock rfl ?_
      refine WS.pseq rfl ?_
      refine WS.pregion rfl ?_
      refine WS.po (tb := tb) rfl rfl rfl rfl rfl ?_
      refine WS.po (tb := tb) rfl rfl rfl rfl rfl ?_
      refine WS.po (tb := tb) rfl rfl rfl rfl rfl ?_
      refine WS.poW (tb := tb) rfl rfl rfl rfl rfl (by simp only [lo]; omega) (by simp only [Am.hi]; omega) ?_
      refine WS.po (tb := tb) rfl rfl rfl rfl rfl ?_
      refine WS.pcallM (tb := tb) [] (run_walk (((i : Int) * step).tmod 1009)) rfl rfl rfl rfl rfl (by (try simp only [mapL, mapV, List.getD_cons_zero, List.getD_cons_succ]); exact rfl) (by simp [okL, okV, tsM, trM, arM]; fail_if_success exfalso) rfl (by simp [embP, okL, okV, mapL, mapV, mem_next, mem_get, mem_ro, mapL_cellsR, okL_cellsR, tsM, trM, arM]; fail_if_success exfalso) rfl ?_; rintro _ _ ⟨rfl, rfl⟩ -; simp only [plugL, setsL, newsL, isOwn, ownB, over, mapL, mapV, List.getD_cons_zero, List.getD_cons_succ, List.set_cons_zero, List.set_cons_succ, List.length_cons, List.length_nil, Nat.reduceAdd, Nat.reduceLT, Nat.zero_add, if_true, if_false, Nat.reduceSub, reduceIte, List.map_cons, List.map_nil, List.append_nil, List.cons_append, List.nil_append, mapL_cellsR, Nat.lt_irrefl, Nat.not_lt_zero, Nat.zero_lt_succ, Nat.lt_add_one, tsM, trM, arM]
      refine WS.pcallM (tb := tb) [0,1,2] I1 rfl rfl rfl rfl rfl (by (try simp only [mapL, mapV, List.getD_cons_zero, List.getD_cons_succ]); exact rfl) (by simp [okL, okV, tsM, trM, arM]; fail_if_success exfalso) rfl (by simp [embP, okL, okV, mapL, mapV, mem_next, mem_get, mem_ro, mapL_cellsR, okL_cellsR, tsM, trM, arM]; fail_if_success exfalso) rfl ?_; rintro _ _ ⟨rfl, rfl⟩ -; simp only [plugL, setsL, newsL, isOwn, ownB, over, mapL, mapV, List.getD_cons_zero, List.getD_cons_succ, List.set_cons_zero, List.set_cons_succ, List.length_cons, List.length_nil, Nat.reduceAdd, Nat.reduceLT, Nat.zero_add, if_true, if_false, Nat.reduceSub, reduceIte, List.map_cons, List.map_nil, List.append_nil, List.cons_append, List.nil_append, mapL_cellsR, Nat.lt_irrefl, Nat.not_lt_zero, Nat.zero_lt_succ, Nat.lt_add_one, tsM, trM, arM]
      refine WS.poB (tb := tb) false rfl rfl rfl rfl rfl rfl ?_
      refine WS.po (tb := tb) rfl rfl rfl rfl rfl ?_
      refine WS.pono rfl rfl rfl rfl ?_
      refine WS.pono rfl rfl rfl rfl ?_
      refine WS.po (tb := tb) rfl rfl rfl rfl rfl ?_
      refine WS.po (tb := tb) rfl rfl rfl rfl rfl ?_
      refine WS.pono rfl rfl rfl rfl ?_
      refine WS.pono rfl rfl rfl rfl ?_
      refine WS.pono rfl rfl rfl rfl ?_
      refine WS.po (tb := tb) rfl rfl rfl rfl rfl ?_
      refine WS.pend rfl ?_
      refine WS.pcondF rfl rfl ?_
      refine WS.pskip rfl ?_
      refine WS.pregion rfl ?_
      refine WS.po (tb := tb) rfl rfl rfl rfl rfl ?_
      refine WS.poW (tb := tb) rfl rfl rfl rfl rfl (by simp only [lo]; omega) (by simp only [Am.hi]; omega) ?_
      refine WS.po (tb := tb) rfl rfl rfl rfl rfl ?_
      refine WS.pend rfl ?_
      refine WS.nil ?_
      exact ⟨(i + 1, insK n s (((i : Int) * step).tmod 1009) 1 7), H', by omega, (SeenBy.seen (v := [0,1,2]) ⟨rfl, rfl, (by simp [viewP, okL, okV, mapL, mapV, mem_get, mapL_cellsR, okL_cellsR, tsM, trM, arM]), (by first | exact rfl | exact own2_dist rfl rfl), (by simp only [slotsP, okV, okL, mapV, mapL, and_true, true_and, List.length_cons, List.length_nil, List.length_append, List.length_map, Nat.reduceAdd, Nat.reduceLT, tsM, trM, arM]; repeat' (first | exact rfl | refine ⟨?_, ?_⟩ | exact lk_m rfl (hmp _ rfl) | exact lk_m rfl (hmp2 _ rfl) | exact hok _ (Nat.le_of_ble_eq_true rfl) | exact hok2 _ (Nat.le_of_ble_eq_true rfl) | exact lk_i rfl (by omega) | exact lk_sl rfl (by omega) (by omega) (by omega) | decide | omega))⟩)⟩
    · have e := H.le
      obtain rfl : i = n := by omega
      refine WS.pseq rfl ?_
      refine WS.pseq rfl ?_
      refine WS.pregion rfl ?_
      refine WS.po (tb := tb) rfl rfl rfl rfl rfl ?_
      refine WS.po (tb := tb) rfl rfl rfl rfl rfl ?_
      refine WS.poDF (tb := tb) rfl rfl rfl rfl rfl (by omega) ?_
      refine WS.pend rfl ?_
      refine WS.pcondF rfl rfl ?_
      refine WS.pout rfl rfl ?_
      exact ⟨rfl, s, H, (SeenBy.seen (v := [0,1,2]) ⟨rfl, rfl, (by simp [viewP, okL, okV, mapL, mapV, mem_get, mapL_cellsR, okL_cellsR, tsM, trM, arM]), (by first | exact rfl | exact own2_dist rfl rfl), (by simp only [slotsP, okV, okL, mapV, mapL, and_true, true_and, List.length_cons, List.length_nil, List.length_append, List.length_map, Nat.reduceAdd, Nat.reduceLT, tsM, trM, arM]; repeat' (first | exact rfl | refine ⟨?_, ?_⟩ | exact lk_m rfl (hmp _ rfl) | exact lk_m rfl (hmp2 _ rfl) | exact hok _ (Nat.le_of_ble_eq_true rfl) | exact hok2 _ (Nat.le_of_ble_eq_true rfl) | exact lk_i rfl (by omega) | exact lk_sl rfl (by omega) (by omega) (by omega) | decide | omega))⟩)⟩
  · rintro s H
    have hok := H.ok
    have hcnt := H.cnt
    have hvl : (viewsT s.T).length = n := (viewsT_len s.T).trans hcnt
    have hne : s.T ≠ .lf := fun e => by rw [TS.n, e, ids_lf] at hcnt; simp at hcnt; omega
    have hhi : s.T.ht ≤ 11 := high_le hok.avl (by simp only [TS.n] at hcnt; omega)
    have hfw : fewest s.T.ht ≤ n := by have := avl_fewest s.T hok.avl; simp only [TS.n] at hcnt; omega
    have V := views_nd hok (by omega) hne
    have hst : ((step : Int).tmod 1009) = step := by rw [Int.tmod_eq_emod_of_nonneg (by omega)]; omega
    simp only [tsM, trM, arM, List.cons_append, List.nil_append]
    refine WS.pseq rfl ?_
    refine WS.pregion rfl ?_
    refine WS.po (tb := tb) rfl rfl rfl rfl rfl ?_
    refine WS.pcallM (tb := tb) [0,1,2] V rfl rfl rfl rfl rfl (by (try simp only [mapL, mapV, List.getD_cons_zero, List.getD_cons_succ]); exact rfl) (by simp [okL, okV, tsR, trR, arR, hcnt]; fail_if_success exfalso) rfl (by simp [embP, okL, okV, mapL, mapV, mem_next, mem_get, mem_ro, mapL_cellsR, okL_cellsR, tsR, trR, arR, hcnt]; fail_if_success exfalso) rfl ?_; rintro _ _ ⟨rfl, rfl⟩ -; simp only [plugL, setsL, newsL, isOwn, ownB, over, mapL, mapV, List.getD_cons_zero, List.getD_cons_succ, List.set_cons_zero, List.set_cons_succ, List.length_cons, List.length_nil, Nat.reduceAdd, Nat.reduceLT, Nat.zero_add, if_true, if_false, Nat.reduceSub, reduceIte, List.map_cons, List.map_nil, List.append_nil, List.cons_append, List.nil_append, mapL_cellsR, Nat.lt_irrefl, Nat.not_lt_zero, Nat.zero_lt_succ, Nat.lt_add_one, tsR, trR, arR, hcnt]
    refine WS.po (tb := tb) rfl rfl rfl rfl rfl ?_
    refine WS.pend rfl ?_
    refine WS.pseq rfl ?_
    refine WS.pregion rfl ?_
    refine WS.po (tb := tb) rfl rfl rfl rfl rfl ?_
    refine WS.pend rfl ?_
    refine WS.pseq rfl ?_
    refine WS.pseq rfl ?_
    refine WS.pregion rfl ?_
    refine WS.po (tb := tb) rfl rfl rfl rfl rfl ?_
    refine WS.pend rfl ?_
    refine WS.pblock rfl ?_
    refine WS.ploopI (σ := Nat) (τ := Unit) (fun i => [(0, .i .i64 n), (1, .i .i64 step), (5, .p (some (1,0))), (7, .p (some (2,0))), (9, .sl (some (3,0)) n n true), (10, .i .i64 (mxH 0 ((viewsT s.T).take i))), (11, .i .i64 i)]) (fun _ => tsM s ++ [some ⟨cellsR rwVw (viewsT s.T), 54, true⟩]) (fun i => i ≤ n) (fun i => n - i)
      (fun _ => [(0, .i .i64 n), (1, .i .i64 step), (5, .p (some (1,0))), (7, .p (some (2,0))), (9, .sl (some (3,0)) n n true), (10, .i .i64 s.T.ht)]) (fun _ => tsM s ++ [some ⟨cellsR rwVw (viewsT s.T), 54, true⟩]) (fun _ => True) 2 [0,1,2,3] 0 rfl (Nat.zero_le _) ⟨rfl, rfl, (by simp [viewP, okL, okV, mapL, mapV, mem_get, mapL_cellsR, okL_cellsR, tsM, trM, arM, hcnt, mxH]), (by first | exact rfl | exact own2_dist rfl rfl), (by simp only [slotsP, okV, okL, mapV, mapL, and_true, true_and, List.length_cons, List.length_nil, List.length_append, List.length_map, Nat.reduceAdd, Nat.reduceLT, tsM, trM, arM, hcnt, mxH]; repeat' (first | exact rfl | refine ⟨?_, ?_⟩ | exact lk_m rfl (hmp _ rfl) | exact lk_m rfl (hmp2 _ rfl) | exact hok _ (Nat.le_of_ble_eq_true rfl) | exact hok2 _ (Nat.le_of_ble_eq_true rfl) | exact lk_i rfl (by omega) | exact lk_sl rfl (by omega) (by omega) (by omega) | decide | omega))⟩ rfl ?_ ?_
    · intro i hi
      simp only [tsM, trM, arM, List.cons_append, List.nil_append]
      by_cases h : i < n
      · obtain ⟨x, hx⟩ : ∃ x, (viewsT s.T)[i]? = some x := ⟨_, List.getElem?_eq_getElem (by omega)⟩
        have hb := views_h s.T x (List.mem_of_getElem? hx)
        have e1 : mxH 0 ((viewsT s.T).take (i + 1)) = max (mxH 0 ((viewsT s.T).take i)) x.h.toNat := by
          rw [List.take_add_one, hx, mxH_app]; rfl
        have e2 : (x.h.toNat : Int) = x.h := Int.toNat_of_nonneg hb.1
        by_cases hgt : x.h > mxH 0 ((viewsT s.T).take i)
        · have e3 : (mxH 0 ((viewsT s.T).take (i + 1)) : Int) = x.h := by omega
          refine WS.pseq rfl ?_
          refine WS.pseq rfl ?_
          refine WS.pregion rfl ?_
          refine WS.po (tb := tb) rfl rfl rfl rfl rfl ?_
          refine WS.po (tb := tb) rfl rfl rfl rfl rfl ?_
          refine WS.po (tb := tb) rfl rfl rfl rfl rfl ?_
          refine WS.poDT (tb := tb) rfl rfl rfl rfl rfl (by omega) ?_
          refine WS.pend rfl ?_
          refine WS.pcondT rfl rfl ?_
          refine WS.pskip rfl ?_
          refine WS.pseq rfl ?_
          refine WS.pblock rfl ?_
          refine WS.pseq rfl ?_
          refine WS.pregion rfl ?_
          refine WS.po (tb := tb) rfl rfl rfl rfl rfl ?_
          refine WS.po (tb := tb) rfl rfl rfl rfl rfl ?_
          refine WS.poP (tb := tb) rfl rfl rfl rfl (step_P (evP_index rfl rfl rfl rfl rfl rfl (by omega))) (by simp only [Nat.zero_add, Nat.add_zero, Nat.reduceAdd, Nat.reduceMul, Nat.add_assoc, Nat.mul_one]; exact rfl) ?_
          refine WS.poP (tb := tb) rfl rfl rfl rfl rfl (by simp only [List.getElem_toArray, List.getElem_cons_zero, List.getElem_cons_succ, Nat.zero_add, Nat.add_zero, Nat.reduceAdd, Nat.reduceMul, Nat.add_assoc, Nat.mul_one, Int.toNat_natCast, Int.reduceToNat, Int.toNat_zero, Nat.zero_mul]; exact rfl) ?_
          refine WS.po (tb := tb) rfl rfl rfl rfl (step_R rfl (evR_load rfl rfl rfl rfl (cellsR_get hx rfl))) ?_
          refine WS.po (tb := tb) rfl rfl rfl rfl rfl ?_
          refine WS.poDT (tb := tb) rfl rfl rfl rfl rfl (by omega) ?_
          refine WS.pend rfl ?_
          refine WS.pcondT rfl rfl ?_
          refine WS.pregion rfl ?_
          refine WS.po (tb := tb) rfl rfl rfl rfl rfl ?_
          refine WS.po (tb := tb) rfl rfl rfl rfl rfl ?_
          refine WS.poP (tb := tb) rfl rfl rfl rfl (step_P (evP_index rfl rfl rfl rfl rfl rfl (by omega))) (by simp only [Nat.zero_add, Nat.add_zero, Nat.reduceAdd, Nat.reduceMul, Nat.add_assoc, Nat.mul_one]; exact rfl) ?_
          refine WS.poP (tb := tb) rfl rfl rfl rfl rfl (by simp only [List.getElem_toArray, List.getElem_cons_zero, List.getElem_cons_succ, Nat.zero_add, Nat.add_zero, Nat.reduceAdd, Nat.reduceMul, Nat.add_assoc, Nat.mul_one, Int.toNat_natCast, Int.reduceToNat, Int.toNat_zero, Nat.zero_mul]; exact rfl) ?_
          refine WS.po (tb := tb) rfl rfl rfl rfl (step_R rfl (evR_load rfl rfl rfl rfl (cellsR_get hx rfl))) ?_
          refine WS.po (tb := tb) rfl rfl rfl rfl rfl ?_
          refine WS.pend rfl ?_
          refine WS.pregion rfl ?_
          refine WS.po (tb := tb) rfl rfl rfl rfl rfl ?_
          refine WS.poW (tb := tb) rfl rfl rfl rfl rfl (by simp only [lo]; omega) (by simp only [Am.hi]; omega) ?_
          refine WS.po (tb := tb) rfl rfl rfl rfl rfl ?_
          refine WS.pend rfl ?_
          refine WS.nil ?_
          exact ⟨i + 1, by omega, by omega, (SeenBy.seen (v := [0,1,2,3]) ⟨rfl, rfl, (by simp [viewP, okL, okV, mapL, mapV, mem_get, mapL_cellsR, okL_cellsR, tsM, trM, arM, e3, hcnt]), (by first | exact rfl | exact own2_dist rfl rfl), (by simp only [slotsP, okV, okL, mapV, mapL, and_true, true_and, List.length_cons, List.length_nil, List.length_append, List.length_map, Nat.reduceAdd, Nat.reduceLT, tsM, trM, arM, e3, hcnt]; repeat' (first | exact rfl | refine ⟨?_, ?_⟩ | exact lk_m rfl (hmp _ rfl) | exact lk_m rfl (hmp2 _ rfl) | exact hok _ (Nat.le_of_ble_eq_true rfl) | exact hok2 _ (Nat.le_of_ble_eq_true rfl) | exact lk_i rfl (by omega) | exact lk_sl rfl (by omega) (by omega) (by omega) | decide | omega))⟩)⟩
        · have e3 : (mxH 0 ((viewsT s.T).take (i + 1)) : Int) = mxH 0 ((viewsT s.T).take i) := by omega
          refine WS.pseq rfl ?_
          refine WS.pseq rfl ?_
          refine WS.pregion rfl ?_
          refine WS.po (tb := tb) rfl rfl rfl rfl rfl ?_
          refine WS.po (tb := tb) rfl rfl rfl rfl rfl ?_
          refine WS.po (tb := tb) rfl rfl rfl rfl rfl ?_
          refine WS.poDT (tb := tb) rfl rfl rfl rfl rfl (by omega) ?_
          refine WS.pend rfl ?_
          refine WS.pcondT rfl rfl ?_
          refine WS.pskip rfl ?_
          refine WS.pseq rfl ?_
          refine WS.pblock rfl ?_
          refine WS.pseq rfl ?_
          refine WS.pregion rfl ?_
          refine WS.po (tb := tb) rfl rfl rfl rfl rfl ?_
          refine WS.po (tb := tb) rfl rfl rfl rfl rfl ?_
          refine WS.poP (tb := tb) rfl rfl rfl rfl (step_P (evP_index rfl rfl rfl rfl rfl rfl (by omega))) (by simp only [Nat.zero_add, Nat.add_zero, Nat.reduceAdd, Nat.reduceMul, Nat.add_assoc, Nat.mul_one]; exact rfl) ?_
          refine WS.poP (tb := tb) rfl rfl rfl rfl rfl (by simp only [List.getElem_toArray, List.getElem_cons_zero, List.getElem_cons_succ, Nat.zero_add, Nat.add_zero, Nat.reduceAdd, Nat.reduceMul, Nat.add_assoc, Nat.mul_one, Int.toNat_natCast, Int.reduceToNat, Int.toNat_zero, Nat.zero_mul]; exact rfl) ?_
          refine WS.po (tb := tb) rfl rfl rfl rfl (step_R rfl (evR_load rfl rfl rfl rfl (cellsR_get hx rfl))) ?_
          refine WS.po (tb := tb) rfl rfl rfl rfl rfl ?_
          refine WS.poDF (tb := tb) rfl rfl rfl rfl rfl (by omega) ?_
          refine WS.pend rfl ?_
          refine WS.pcondF rfl rfl ?_
          refine WS.pskip rfl ?_
          refine WS.pregion rfl ?_
          refine WS.po (tb := tb) rfl rfl rfl rfl rfl ?_
          refine WS.poW (tb := tb) rfl rfl rfl rfl rfl (by simp only [lo]; omega) (by simp only [Am.hi]; omega) ?_
          refine WS.po (tb := tb) rfl rfl rfl rfl rfl ?_
          refine WS.pend rfl ?_
          refine WS.nil ?_
          exact ⟨i + 1, by omega, by omega, (SeenBy.seen (v := [0,1,2,3]) ⟨rfl, rfl, (by simp [viewP, okL, okV, mapL, mapV, mem_get, mapL_cellsR, okL_cellsR, tsM, trM, arM, e3, hcnt]), (by first | exact rfl | exact own2_dist rfl rfl), (by simp only [slotsP, okV, okL, mapV, mapL, and_true, true_and, List.length_cons, List.length_nil, List.length_append, List.length_map, Nat.reduceAdd, Nat.reduceLT, tsM, trM, arM, e3, hcnt]; repeat' (first | exact rfl | refine ⟨?_, ?_⟩ | exact lk_m rfl (hmp _ rfl) | exact lk_m rfl (hmp2 _ rfl) | exact hok _ (Nat.le_of_ble_eq_true rfl) | exact hok2 _ (Nat.le_of_ble_eq_true rfl) | exact lk_i rfl (by omega) | exact lk_sl rfl (by omega) (by omega) (by omega) | decide | omega))⟩)⟩
      · obtain rfl : i = n := by omega
        have e3 : mxH 0 ((viewsT s.T).take i) = s.T.ht := by
          rw [List.take_of_length_le (by omega), mxH_views]; omega
        refine WS.pseq rfl ?_
        refine WS.pseq rfl ?_
        refine WS.pregion rfl ?_
        refine WS.po (tb := tb) rfl rfl rfl rfl rfl ?_
        refine WS.po (tb := tb) rfl rfl rfl rfl rfl ?_
        refine WS.po (tb := tb) rfl rfl rfl rfl rfl ?_
        refine WS.poDF (tb := tb) rfl rfl rfl rfl rfl (by omega) ?_
        refine WS.pend rfl ?_
        refine WS.pcondF rfl rfl ?_
        refine WS.pout rfl rfl ?_
        exact ⟨rfl, (), trivial, (SeenBy.seen (v := [0,1,2,3]) ⟨rfl, rfl, (by simp [viewP, okL, okV, mapL, mapV, mem_get, mapL_cellsR, okL_cellsR, tsM, trM, arM, e3]), (by first | exact rfl | exact own2_dist rfl rfl), (by simp only [slotsP, okV, okL, mapV, mapL, and_true, true_and, List.length_cons, List.length_nil, List.length_append, List.length_map, Nat.reduceAdd, Nat.reduceLT, tsM, trM, arM, e3]; repeat' (first | exact rfl | refine ⟨?_, ?_⟩ | exact lk_m rfl (hmp _ rfl) | exact lk_m rfl (hmp2 _ rfl) | exact hok _ (Nat.le_of_ble_eq_true rfl) | exact hok2 _ (Nat.le_of_ble_eq_true rfl) | exact lk_i rfl (by omega) | exact lk_sl rfl (by omega) (by omega) (by omega) | decide | omega))⟩)⟩
    · rintro _ -
      simp only [tsM, trM, arM, List.cons_append, List.nil_append]
      have hle := least_get hhi
      simp only [leastV] at hle
      refine WS.pseq rfl ?_
      refine WS.pregion rfl ?_
      refine WS.po (tb := tb) rfl rfl rfl rfl rfl ?_; rw [new_mem]; simp only [List.cons_append, List.nil_append, vcells, mem_next, List.length_cons, List.length_nil, Nat.zero_add, Nat.reduceAdd, reps, List.append_nil, setL, List.set_cons_zero, List.set_cons_succ, Nat.zero_mul, Nat.reduceMul]
      refine WS.po (tb := tb) rfl rfl rfl rfl rfl ?_
      refine WS.pend rfl ?_
      refine WS.pseq rfl ?_
      refine WS.pseq rfl ?_
      refine WS.pregion rfl ?_
      refine WS.po (tb := tb) rfl rfl rfl rfl rfl ?_
      refine WS.poDF (tb := tb) rfl rfl rfl rfl rfl (by omega) ?_
      refine WS.po (tb := tb) rfl rfl rfl rfl rfl ?_
      refine WS.po (tb := tb) rfl rfl rfl rfl rfl ?_
      refine WS.po (tb := tb) rfl rfl rfl rfl rfl ?_
      refine WS.po (tb := tb) rfl rfl rfl rfl rfl ?_
      refine WS.po (tb := tb) rfl rfl rfl rfl rfl ?_
      refine WS.poP (tb := tb) rfl rfl rfl rfl (step_P (evP_index rfl rfl rfl rfl rfl rfl (by omega))) (by simp only [Nat.zero_add, Nat.add_zero, Nat.reduceAdd, Nat.reduceMul, Nat.add_assoc, Nat.mul_one]; exact rfl) ?_
      refine WS.po (tb := tb) rfl rfl rfl rfl (step_R rfl (evR_load rfl rfl rfl rfl (hle))) ?_
      refine WS.poDF (tb := tb) rfl rfl rfl rfl rfl (by omega) ?_
      refine WS.po (tb := tb) rfl rfl rfl rfl rfl ?_
      refine WS.po (tb := tb) rfl rfl rfl rfl rfl ?_
      refine WS.po (tb := tb) rfl rfl rfl rfl rfl ?_
      refine WS.po (tb := tb) rfl rfl rfl rfl rfl ?_
      refine WS.poNT (tb := tb) rfl rfl rfl rfl rfl (by omega) ?_
      refine WS.po (tb := tb) rfl rfl rfl rfl rfl ?_
      refine WS.po (tb := tb) rfl rfl rfl rfl rfl ?_
      refine WS.po (tb := tb) rfl rfl rfl rfl rfl ?_
      refine WS.po (tb := tb) rfl rfl rfl rfl rfl ?_
      refine WS.poNF (tb := tb) rfl rfl rfl rfl rfl (by omega) ?_
      refine WS.po (tb := tb) rfl rfl rfl rfl rfl ?_
      refine WS.po (tb := tb) rfl rfl rfl rfl rfl ?_
      refine WS.pend rfl ?_
      refine WS.pcondF rfl rfl ?_
      refine WS.pskip rfl ?_
      refine WS.pseq rfl ?_
      refine WS.pseq rfl ?_
      refine WS.pregion rfl ?_
      refine WS.po (tb := tb) rfl rfl rfl rfl rfl ?_
      refine WS.pend rfl ?_
      refine WS.pblock rfl ?_
      refine WS.ploopI (σ := Nat × TS) (τ := TS) (fun x => [(0, .i .i64 n), (5, .p (some (1,0))), (7, .p (some (2,0))), (9, .sl (some (3,0)) n n true), (13, .i .i64 x.1)]) (fun x => tsM x.2 ++ [some ⟨cellsR rwVw (viewsT s.T), 54, true⟩]) (fun x => InvD n (viewsT s.T) x.1 x.2) (fun x => n - x.1)
        (fun _ => [(0, .i .i64 n), (5, .p (some (1,0))), (7, .p (some (2,0)))]) (fun x => tsM x) (fun x => InvD n (viewsT s.T) n x) 4 [0,1,2,3] (0, s) rfl (invD_0 hok) ⟨rfl, rfl, (by simp [viewP, okL, okV, mapL, mapV, mem_get, mapL_cellsR, okL_cellsR, tsM, trM, arM]), (by first | exact rfl | exact own2_dist rfl rfl), (by simp only [slotsP, okV, okL, mapV, mapL, and_true, true_and, List.length_cons, List.length_nil, List.length_append, List.length_map, Nat.reduceAdd, Nat.reduceLT, tsM, trM, arM]; repeat' (first | exact rfl | refine ⟨?_, ?_⟩ | exact lk_m rfl (hmp _ rfl) | exact lk_m rfl (hmp2 _ rfl) | exact hok _ (Nat.le_of_ble_eq_true rfl) | exact hok2 _ (Nat.le_of_ble_eq_true rfl) | exact lk_i rfl (by omega) | exact lk_sl rfl (by omega) (by omega) (by omega) | decide | omega))⟩ rfl ?_ ?_
      · rintro ⟨i, u⟩ H2
        dsimp only at H2
        simp only [tsM, trM, arM, List.cons_append, List.nil_append]
        by_cases h : i < n
        · obtain ⟨x, hx⟩ : ∃ x, (viewsT s.T)[i]? = some x := ⟨_, List.getElem?_eq_getElem (by omega)⟩
          obtain ⟨e0, H3⟩ := H2.step hx (views_srt hok.srt)
          have D := del_any x.a H2.ok (by omega)
          rw [e0] at D
          refine WS.pseq rfl ?_
          refine WS.pseq rfl ?_
          refine WS.pregion rfl ?_
          refine WS.po (tb := tb) rfl rfl rfl rfl rfl ?_
          refine WS.po (tb := tb) rfl rfl rfl rfl rfl ?_
          refine WS.po (tb := tb) rfl rfl rfl rfl rfl ?_
          refine WS.poDT (tb := tb) rfl rfl rfl rfl rfl (by omega) ?_
          refine WS.pend rfl ?_
          refine WS.pcondT rfl rfl ?_
          refine WS.pskip rfl ?_
          refine WS.pseq rfl ?_
          refine WS.pblock rfl ?_
          refine WS.pseq rfl ?_
          refine WS.pregion rfl ?_
          refine WS.po (tb := tb) rfl rfl rfl rfl rfl ?_
          refine WS.po (tb := tb) rfl rfl rfl rfl rfl ?_
          refine WS.po (tb := tb) rfl rfl rfl rfl rfl ?_
          refine WS.poP (tb := tb) rfl rfl rfl rfl (step_P (evP_index rfl rfl rfl rfl rfl rfl (by omega))) (by simp only [Nat.zero_add, Nat.add_zero, Nat.reduceAdd, Nat.reduceMul, Nat.add_assoc, Nat.mul_one]; exact rfl) ?_
          refine WS.poP (tb := tb) rfl rfl rfl rfl rfl (by simp only [List.getElem_toArray, List.getElem_cons_zero, List.getElem_cons_succ, Nat.zero_add, Nat.add_zero, Nat.reduceAdd, Nat.reduceMul, Nat.add_assoc, Nat.mul_one, Int.toNat_natCast, Int.reduceToNat, Int.toNat_zero, Nat.zero_mul]; exact rfl) ?_
          refine WS.poP (tb := tb) rfl rfl rfl rfl rfl (by simp only [List.getElem_toArray, List.getElem_cons_zero, List.getElem_cons_succ, Nat.zero_add, Nat.add_zero, Nat.reduceAdd, Nat.reduceMul, Nat.add_assoc, Nat.mul_one, Int.toNat_natCast, Int.reduceToNat, Int.toNat_zero, Nat.zero_mul]; exact rfl) ?_
          refine WS.po (tb := tb) rfl rfl rfl rfl (step_R rfl (evR_load rfl rfl rfl rfl (cellsR_get hx rfl))) ?_
          refine WS.pcallM (tb := tb) [0,1,2] D rfl rfl rfl rfl rfl (by (try simp only [mapL, mapV, List.getD_cons_zero, List.getD_cons_succ]); exact rfl) (by simp [okL, okV, tsM, trM, arM]; fail_if_success exfalso) rfl (by simp [embP, okL, okV, mapL, mapV, mem_next, mem_get, mem_ro, mapL_cellsR, okL_cellsR, tsM, trM, arM]; fail_if_success exfalso) rfl ?_; rintro _ _ ⟨rfl, rfl⟩ -; simp only [plugL, setsL, newsL, isOwn, ownB, over, mapL, mapV, List.getD_cons_zero, List.getD_cons_succ, List.set_cons_zero, List.set_cons_succ, List.length_cons, List.length_nil, Nat.reduceAdd, Nat.reduceLT, Nat.zero_add, if_true, if_false, Nat.reduceSub, reduceIte, List.map_cons, List.map_nil, List.append_nil, List.cons_append, List.nil_append, mapL_cellsR, Nat.lt_irrefl, Nat.not_lt_zero, Nat.zero_lt_succ, Nat.lt_add_one, tsM, trM, arM]
          refine WS.poB (tb := tb) false rfl rfl rfl rfl rfl rfl ?_
          refine WS.pend rfl ?_
          refine WS.pcondF rfl rfl ?_
          refine WS.pskip rfl ?_
          refine WS.pregion rfl ?_
          refine WS.po (tb := tb) rfl rfl rfl rfl rfl ?_
          refine WS.poW (tb := tb) rfl rfl rfl rfl rfl (by simp only [lo]; omega) (by simp only [Am.hi]; omega) ?_
          refine WS.po (tb := tb) rfl rfl rfl rfl rfl ?_
          refine WS.pend rfl ?_
          refine WS.nil ?_
          exact ⟨(i + 1, delK u x.a), H3, by omega, (SeenBy.seen (v := [0,1,2,3]) ⟨rfl, rfl, (by simp [viewP, okL, okV, mapL, mapV, mem_get, mapL_cellsR, okL_cellsR, tsM, trM, arM]), (by first | exact rfl | exact own2_dist rfl rfl), (by simp only [slotsP, okV, okL, mapV, mapL, and_true, true_and, List.length_cons, List.length_nil, List.length_append, List.length_map, Nat.reduceAdd, Nat.reduceLT, tsM, trM, arM]; repeat' (first | exact rfl | refine ⟨?_, ?_⟩ | exact lk_m rfl (hmp _ rfl) | exact lk_m rfl (hmp2 _ rfl) | exact hok _ (Nat.le_of_ble_eq_true rfl) | exact hok2 _ (Nat.le_of_ble_eq_true rfl) | exact lk_i rfl (by omega) | exact lk_sl rfl (by omega) (by omega) (by omega) | decide | omega))⟩)⟩
        · have e := H2.le
          obtain rfl : i = n := by omega
          refine WS.pseq rfl ?_
          refine WS.pseq rfl ?_
          refine WS.pregion rfl ?_
          refine WS.po (tb := tb) rfl rfl rfl rfl rfl ?_
          refine WS.po (tb := tb) rfl rfl rfl rfl rfl ?_
          refine WS.po (tb := tb) rfl rfl rfl rfl rfl ?_
          refine WS.poDF (tb := tb) rfl rfl rfl rfl rfl (by omega) ?_
          refine WS.pend rfl ?_
          refine WS.pcondF rfl rfl ?_
          refine WS.pout rfl rfl ?_
          exact ⟨rfl, u, H2, (SeenBy.seen (v := [0,1,2]) ⟨rfl, rfl, (by simp [viewP, okL, okV, mapL, mapV, mem_get, mapL_cellsR, okL_cellsR, tsM, trM, arM]), (by first | exact rfl | exact own2_dist rfl rfl), (by simp only [slotsP, okV, okL, mapV, mapL, and_true, true_and, List.length_cons, List.length_nil, List.length_append, List.length_map, Nat.reduceAdd, Nat.reduceLT, tsM, trM, arM]; repeat' (first | exact rfl | refine ⟨?_, ?_⟩ | exact lk_m rfl (hmp _ rfl) | exact lk_m rfl (hmp2 _ rfl) | exact hok _ (Nat.le_of_ble_eq_true rfl) | exact hok2 _ (Nat.le_of_ble_eq_true rfl) | exact lk_i rfl (by omega) | exact lk_sl rfl (by omega) (by omega) (by omega) | decide | omega))⟩)⟩
      · rintro u H2
        have h0 : u.n = 0 := by have := H2.cnt; omega
        obtain ⟨fl, F⟩ := free_all H2.ok h1 (by omega) h0
        have L := tlen_walk u.ps u.fr u.n u.T.id u.n
        have A := ar_live_is u.ps u.fr u.n
        simp only [h0] at L A F
        simp only [tsM, trM, arM, List.cons_append, List.nil_append, h0]
        refine WS.pseq rfl ?_
        refine WS.pregion rfl ?_
        refine WS.po (tb := tb) rfl rfl rfl rfl rfl ?_
        refine WS.pcallM (tb := tb) [0,1,2] L rfl rfl rfl rfl rfl (by (try simp only [mapL, mapV, List.getD_cons_zero, List.getD_cons_succ]); exact rfl) (by simp [okL, okV, trR, arR, arM]; fail_if_success exfalso) rfl (by simp [embP, okL, okV, mapL, mapV, mem_next, mem_get, mem_ro, mapL_cellsR, okL_cellsR, trR, arR, arM]; fail_if_success exfalso) rfl ?_; rintro _ _ ⟨rfl, rfl⟩ -; simp only [plugL, setsL, newsL, isOwn, ownB, over, mapL, mapV, List.getD_cons_zero, List.getD_cons_succ, List.set_cons_zero, List.set_cons_succ, List.length_cons, List.length_nil, Nat.reduceAdd, Nat.reduceLT, Nat.zero_add, if_true, if_false, Nat.reduceSub, reduceIte, List.map_cons, List.map_nil, List.append_nil, List.cons_append, List.nil_append, mapL_cellsR, Nat.lt_irrefl, Nat.not_lt_zero, Nat.zero_lt_succ, Nat.lt_add_one, trR, arR, arM]
        refine WS.poB (tb := tb) true rfl rfl rfl rfl rfl rfl ?_
        refine WS.po (tb := tb) rfl rfl rfl rfl rfl ?_
        refine WS.po (tb := tb) rfl rfl rfl rfl rfl ?_
        refine WS.pcallM (tb := tb) [0,1] A rfl rfl rfl rfl rfl (by (try simp only [mapL, mapV, List.getD_cons_zero, List.getD_cons_succ]); exact rfl) (by simp [okL, okV, trR, arR, arM]; fail_if_success exfalso) rfl (by simp [embP, okL, okV, mapL, mapV, mem_next, mem_get, mem_ro, mapL_cellsR, okL_cellsR, trR, arR, arM]; fail_if_success exfalso) rfl ?_; rintro _ _ ⟨rfl, rfl⟩ -; simp only [plugL, setsL, newsL, isOwn, ownB, over, mapL, mapV, List.getD_cons_zero, List.getD_cons_succ, List.set_cons_zero, List.set_cons_succ, List.length_cons, List.length_nil, Nat.reduceAdd, Nat.reduceLT, Nat.zero_add, if_true, if_false, Nat.reduceSub, reduceIte, List.map_cons, List.map_nil, List.append_nil, List.cons_append, List.nil_append, mapL_cellsR, Nat.lt_irrefl, Nat.not_lt_zero, Nat.zero_lt_succ, Nat.lt_add_one, trR, arR, arM]
        refine WS.poB (tb := tb) true rfl rfl rfl rfl rfl rfl ?_
        refine WS.po (tb := tb) rfl rfl rfl rfl rfl ?_
        refine WS.po (tb := tb) rfl rfl rfl rfl rfl ?_
        refine WS.po (tb := tb) rfl rfl rfl rfl rfl ?_
        refine WS.pcallM (tb := tb) [0,1] F rfl rfl rfl rfl rfl (by (try simp only [mapL, mapV, List.getD_cons_zero, List.getD_cons_succ]); exact rfl) (by simp [okL, okV, trR, arR, arM]; fail_if_success exfalso) rfl (by simp [embP, okL, okV, mapL, mapV, mem_next, mem_get, mem_ro, mapL_cellsR, okL_cellsR, trR, arR, arM]; fail_if_success exfalso) rfl ?_; rintro _ _ ⟨rfl, rfl⟩ -; simp only [plugL, setsL, newsL, isOwn, ownB, over, mapL, mapV, List.getD_cons_zero, List.getD_cons_succ, List.set_cons_zero, List.set_cons_succ, List.length_cons, List.length_nil, Nat.reduceAdd, Nat.reduceLT, Nat.zero_add, if_true, if_false, Nat.reduceSub, reduceIte, List.map_cons, List.map_nil, List.append_nil, List.cons_append, List.nil_append, mapL_cellsR, Nat.lt_irrefl, Nat.not_lt_zero, Nat.zero_lt_succ, Nat.lt_add_one, trR, arR, arM]
        refine WS.po (tb := tb) rfl rfl rfl rfl rfl ?_
        refine WS.po (tb := tb) rfl rfl rfl rfl rfl ?_
        refine WS.poDT (tb := tb) rfl rfl rfl rfl rfl (by omega) ?_
        refine WS.po (tb := tb) rfl rfl rfl rfl rfl ?_
        refine WS.po (tb := tb) rfl rfl rfl rfl rfl ?_
        refine WS.pend rfl ?_
        refine WS.pret rfl ⟨.inr rfl, _, rfl, ?_⟩
        exact ⟨_, rfl, rfl⟩
theorem high_bad (z1 z2 : Int) (h : z1 < 1 ∨ 300 < z1 ∨ z2 < 1 ∨ 1000 < z2) : FM Try.prog 6 [.i .i64 z1, .i .i64 z2] [] (fun v _ => v = .b true) := by
  refine FM.pbody (tb := tb) (fn := Try.f6) rfl rfl ?_
  simp only [argS, Nat.reduceAdd, List.length_cons, List.length_nil]
  focus
    refine WS.pseq rfl ?_
    refine WS.pregion rfl ?_
    refine WS.po (tb := tb) rfl rfl rfl rfl rfl ?_
    refine WS.pend rfl ?_
    refine WS.pseq rfl ?_
    refine WS.pseq rfl ?_
    refine WS.pregion rfl ?_
    refine WS.pcallM (tb := tb) [] awake_fm rfl rfl rfl rfl rfl (by (try simp only [mapL, mapV, List.getD_cons_zero, List.getD_cons_succ]); exact rfl) (by simp [okL, okV]; fail_if_success exfalso) rfl (by simp [embP, okL, okV, mapL, mapV, mem_next, mem_get, mem_ro, mapL_cellsR, okL_cellsR]; fail_if_success exfalso) rfl ?_; rintro _ _ ⟨rfl, rfl⟩ -; simp only [plugL, setsL, newsL, isOwn, ownB, over, mapL, mapV, List.getD_cons_zero, List.getD_cons_succ, List.set_cons_zero, List.set_cons_succ, List.length_cons, List.length_nil, Nat.reduceAdd, Nat.reduceLT, Nat.zero_add, if_true, if_false, Nat.reduceSub, reduceIte, List.map_cons, List.map_nil, List.append_nil, List.cons_append, List.nil_append, mapL_cellsR, Nat.lt_irrefl, Nat.not_lt_zero, Nat.zero_lt_succ, Nat.lt_add_one]
    refine WS.poB (tb := tb) false rfl rfl rfl rfl rfl rfl ?_
    refine WS.pend rfl ?_
    refine WS.pcondF rfl rfl ?_
    refine WS.pskip rfl ?_
    refine WS.pseq rfl ?_
    refine WS.pseq rfl ?_
    refine WS.pregion rfl ?_
    refine WS.po (tb := tb) rfl rfl rfl rfl rfl ?_
    refine WS.poDS (tb := tb) rfl rfl rfl rfl rfl (fun hb__ => ?_) (fun hb__ => ?_)
    refine WS.po (tb := tb) rfl rfl rfl rfl rfl ?_
    refine WS.pono rfl rfl rfl rfl ?_
    refine WS.pono rfl rfl rfl rfl ?_
    refine WS.po (tb := tb) rfl rfl rfl rfl rfl ?_
    refine WS.po (tb := tb) rfl rfl rfl rfl rfl ?_
    refine WS.pono rfl rfl rfl rfl ?_
    refine WS.pono rfl rfl rfl rfl ?_
    refine WS.po (tb := tb) rfl rfl rfl rfl rfl ?_
    refine WS.po (tb := tb) rfl rfl rfl rfl rfl ?_
    refine WS.pono rfl rfl rfl rfl ?_
    refine WS.pono rfl rfl rfl rfl ?_
    refine WS.po (tb := tb) rfl rfl rfl rfl rfl ?_
    refine WS.pend rfl ?_
    refine WS.pcondT rfl rfl ?_
    refine WS.pseq rfl ?_
    refine WS.pregion rfl ?_
    refine WS.po (tb := tb) rfl rfl rfl rfl rfl ?_
    refine WS.pend rfl ?_
    refine WS.pret rfl ⟨.inr rfl, _, rfl, ?_⟩
    rotate_left
    refine WS.po (tb := tb) rfl rfl rfl rfl rfl ?_
    refine WS.po (tb := tb) rfl rfl rfl rfl rfl ?_
    refine WS.poDS (tb := tb) rfl rfl rfl rfl rfl (fun hb__ => ?_) (fun hb__ => ?_)
    refine WS.po (tb := tb) rfl rfl rfl rfl rfl ?_
    refine WS.po (tb := tb) rfl rfl rfl rfl rfl ?_
    refine WS.pono rfl rfl rfl rfl ?_
    refine WS.pono rfl rfl rfl rfl ?_
    refine WS.po (tb := tb) rfl rfl rfl rfl rfl ?_
    refine WS.po (tb := tb) rfl rfl rfl rfl rfl ?_
    refine WS.pono rfl rfl rfl rfl ?_
    refine WS.pono rfl rfl rfl rfl ?_
    refine WS.po (tb := tb) rfl rfl rfl rfl rfl ?_
    refine WS.pend rfl ?_
    refine WS.pcondT rfl rfl ?_
    refine WS.pseq rfl ?_
    refine WS.pregion rfl ?_
    refine WS.po (tb := tb) rfl rfl rfl rfl rfl ?_
    refine WS.pend rfl ?_
    refine WS.pret rfl ⟨.inr rfl, _, rfl, ?_⟩
    rotate_left
    refine WS.po (tb := tb) rfl rfl rfl rfl rfl ?_
    refine WS.po (tb := tb) rfl rfl rfl rfl rfl ?_
    refine WS.po (tb := tb) rfl rfl rfl rfl rfl ?_
    refine WS.poDS (tb := tb) rfl rfl rfl rfl rfl (fun hb__ => ?_) (fun hb__ => ?_)
    refine WS.po (tb := tb) rfl rfl rfl rfl rfl ?_
    refine WS.po (tb := tb) rfl rfl rfl rfl rfl ?_
    refine WS.pono rfl rfl rfl rfl ?_
    refine WS.pono rfl rfl rfl rfl ?_
    refine WS.po (tb := tb) rfl rfl rfl rfl rfl ?_
    refine WS.pend rfl ?_
    refine WS.pcondT rfl rfl ?_
    refine WS.pseq rfl ?_
    refine WS.pregion rfl ?_
    refine WS.po (tb := tb) rfl rfl rfl rfl rfl ?_
    refine WS.pend rfl ?_
    refine WS.pret rfl ⟨.inr rfl, _, rfl, ?_⟩
    rotate_left
    refine WS.po (tb := tb) rfl rfl rfl rfl rfl ?_
    refine WS.po (tb := tb) rfl rfl rfl rfl rfl ?_
    refine WS.po (tb := tb) rfl rfl rfl rfl rfl ?_
    refine WS.poDT (tb := tb) rfl rfl rfl rfl rfl (by omega) ?_
    refine WS.po (tb := tb) rfl rfl rfl rfl rfl ?_
    refine WS.pend rfl ?_
    refine WS.pcondT rfl rfl ?_
    refine WS.pseq rfl ?_
    refine WS.pregion rfl ?_
    refine WS.po (tb := tb) rfl rfl rfl rfl rfl ?_
    refine WS.pend rfl ?_
    refine WS.pret rfl ⟨.inr rfl, _, rfl, ?_⟩
    rotate_left
  all_goals exact ⟨_, rfl, rfl⟩
theorem high_calls (z1 z2 : Int) (W : World) (_ : (Lit.int .i64 z1).wf = true) (_ : (Lit.int .i64 z2).wf = true) :
    Calls Try.prog 6 #[.int .i64 z1, .int .i64 z2] W (fun e w' => e = .returned (.bool true) ∧ Go.RowKit.Below W.heap.size W w') := by
  have key : FM Try.prog 6 [.i .i64 z1, .i .i64 z2] [] (fun v _ => v = .b true) := by
    by_cases h : z1 < 1 ∨ 300 < z1 ∨ z2 < 1 ∨ 1000 < z2
    · exact high_bad z1 z2 h
    · obtain ⟨n, rfl⟩ : ∃ n : Nat, z1 = n := ⟨z1.toNat, by omega⟩
      obtain ⟨m, rfl⟩ : ∃ n : Nat, z2 = n := ⟨z2.toNat, by omega⟩
      exact high_main n m (by omega) (by omega) (by omega) (by omega)
  exact FM.top key ⟨trivial, trivial, trivial⟩ W
end Go.Proofs.Ytpogfelbimcglaa.Am

