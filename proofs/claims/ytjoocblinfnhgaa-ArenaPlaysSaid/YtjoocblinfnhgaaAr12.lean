/- The walk of ArenaPlays. Conditions: those of each theorem. -/
import Derived.Test.YtjoocblinfnhgaaAr9
import Derived.Test.YtjoocblinfnhgaaAr10
import Derived.Test.YtjoocblinfnhgaaAr11
namespace Go.Proofs.Ytjoocblinfnhgaa.Am
open Go.Proofs
set_option maxRecDepth 100000
set_option maxHeartbeats 4000000
set_option linter.unusedSimpArgs false
set_option linter.unusedVariables false
theorem enum_blk (i : Nat) : True := trivial
def upto (i : Nat) : List Nat := List.range' 1 i
theorem iniP_lives (n : Nat) : lives (iniP n n) = List.replicate (n + 1) false := by
  rw [iniP_mkl, replicate_mkl]
  simp [lives, mkl, pl0]
theorem chn_up (n : Nat) (ps : List Pl) (h : ps = iniP n n) : ∀ m, m ≤ n → Chn ps (if m < n then ((m : Int) + 1) else 0) (List.range' (m + 1) (n - m)) := by
  intro m hm
  obtain ⟨d, rfl⟩ : ∃ d, n = m + d := ⟨n - m, by omega⟩
  clear hm
  induction d generalizing m with
  | zero => simp [Chn]
  | succ d ih =>
    rw [if_pos (by omega), show m + (d + 1) - m = d + 1 by omega, List.range'_succ]
    refine ⟨by omega, by omega, _, by rw [h, iniP_get _ _ _ (by omega)], ?_⟩
    have := ih (m + 1) (by rw [h]; congr 1 <;> omega)
    rw [show m + 1 + d - (m + 1) = d by omega] at this
    simp only
    by_cases e : m + 1 < m + (d + 1)
    · rw [if_pos (by omega)] at this
      rw [if_pos (by omega)]
      exact this
    · rw [if_neg (by omega)] at this
      rw [if_neg (by omega)]
      exact this
theorem inv_ini (size n : Nat) (h1 : 1 ≤ size) : Inv size n ⟨0, iniP size size, 1, 0, List.range' 1 size, nums (List.range' 1 size), 0, true, List.replicate (size + 1) ⟨0, 0, 0, 0, 0, 0⟩⟩ := by
  have hc := chn_up size _ rfl 0 (Nat.zero_le _)
  rw [if_pos (by omega)] at hc
  refine ⟨Nat.zero_le _, iniP_len _ _, by simp, by simpa using hc, List.nodup_range', fun j p hj => ?_, by simp, fun _ => rfl, fun j p hj hl => ?_⟩
  · have hjl : j ≤ size := by have := (List.getElem?_eq_some_iff.1 hj).1; rw [iniP_len] at this; omega
    simp only at hj
    rw [iniP_get _ _ _ hjl] at hj
    injection hj with hj; subst hj
    simp [List.mem_range'_1]; omega
  · have hjl : j ≤ size := by have := (List.getElem?_eq_some_iff.1 hj).1; rw [iniP_len] at this; omega
    simp only at hj
    rw [iniP_get _ _ _ hjl] at hj
    injection hj with hj; subst hj
    cases hl

theorem body_all (size : Nat) (l : List Act) (a : Option (Nat × Nat)) (c : Nat) (h2 : size ≤ 60) (hl : l.length ≤ 200) (ha0 : 0 < l.length → a = some (0, 0)) (s : St) (H : Inv size l.length s) :
    WS Try.prog (frameN Try.f4 2) 1 [.c (k1 (k1 (k2 (k1 (k2 (k2 (k2 (k2 (k2 (k2 (k2 (k2 (k2 (kb Try.f4))))))))))))))] (slt (SSp size a l.length c s)) (mem 0 (MMp l s)) (fun x t' h' => match x with
      | .n => ∃ s', Inv size l.length s' ∧ l.length - s'.i < l.length - s.i ∧ Seen 1 t' h' (SSp size a l.length c s') (MMp l s')
      | .x j => j = 2 ∧ ∃ b : Unit, True ∧ Seen 1 t' h' [] [some ⟨cellsR rwAct l, 36, false⟩]
      | .r => False) := by
  have hi := H.i
  obtain ⟨i, ps, fr, lv, free, xs, o, q, nd⟩ := s
  dsimp only at hi
  by_cases h : i < l.length
  · obtain rfl := ha0 (by omega)
    obtain ⟨x, hx⟩ : ∃ x, l[i]? = some x := ⟨_, List.getElem?_eq_getElem h⟩
    obtain ⟨op, z, left, hh, lba⟩ := x
    have hlen : ps.length = size + 1 := H.len
    by_cases h3 : z < 0
    · exact bd_neg size l c i ps fr lv free xs o q nd z op left hh lba H hl hx h3
    by_cases h4 : 1000 < z
    · exact bd_big size l c i ps fr lv free xs o q nd z op left hh lba H hl hx h4
    obtain ⟨k, rfl⟩ : ∃ k : Nat, z = k := ⟨z.toNat, by omega⟩
    have hk : k ≤ 1000 := by omega
    by_cases h0 : op = 0
    · rcases free with _ | ⟨kk, r⟩
      · exact bd_t0 size l c i ps fr lv xs o nd k op left hh lba q H h0 hl h2 hx hk
      · rcases r with _ | ⟨kz, r2⟩
        · cases q with
          | true => exact bd_t1a size l c i ps fr lv xs o nd k op left hh lba kk H h0 hl h2 hx hk
          | false => exact bd_t1c size l c i ps fr lv xs o nd k op left hh lba kk H h0 hl h2 hx hk
        · cases q with
          | true => exact bd_t1b size l c i ps fr lv xs o nd k op left hh lba kk kz r2 H h0 hl h2 hx hk
          | false => exact bd_t1d size l c i ps fr lv xs o nd k op left hh lba kk kz r2 H h0 hl h2 hx hk
    by_cases hp : ∃ p, ps[k]? = some p ∧ p.live = true
    · obtain ⟨p, hp, hl'⟩ := hp
      rcases free with _ | ⟨f0, r0⟩
      · by_cases h5 : op = 1
        · exact bd_g1n size l c i ps fr lv xs o nd k op left hh lba q H p hp hl' h5 hl h2 hx hk
        by_cases h6 : op = 2
        · exact bd_p1n size l c i ps fr lv xs o nd k op left hh lba q H p hp hl' h6 hl h2 hx hk
        exact bd_q1n size l c i ps fr lv xs o nd k op left hh lba q H p hp hl' ⟨h0, h5, h6⟩ hl h2 hx hk
      · by_cases h5 : op = 1
        · exact bd_g1c size l c i ps fr lv xs o nd k op left hh lba q f0 r0 H p hp hl' h5 hl h2 hx hk
        by_cases h6 : op = 2
        · exact bd_p1c size l c i ps fr lv xs o nd k op left hh lba q f0 r0 H p hp hl' h6 hl h2 hx hk
        exact bd_q1c size l c i ps fr lv xs o nd k op left hh lba q f0 r0 H p hp hl' ⟨h0, h5, h6⟩ hl h2 hx hk
    · have hn : ∀ p, ps[k]? = some p → p.live = false := fun p h7 => by
        cases h8 : p.live with
        | false => rfl
        | true => exact absurd ⟨p, h7, h8⟩ hp
      rcases free with _ | ⟨f0, r0⟩
      · by_cases h5 : op = 1
        · exact bd_g0n size l c i ps fr lv xs o nd k op left hh lba q H hn h5 hl h2 hx hk
        by_cases h6 : op = 2
        · exact bd_p0n size l c i ps fr lv xs o nd k op left hh lba q H hn h6 hl h2 hx hk
        exact bd_q0n size l c i ps fr lv xs o nd k op left hh lba q H hn ⟨h0, h5, h6⟩ hl h2 hx hk
      · by_cases h5 : op = 1
        · exact bd_g0c size l c i ps fr lv xs o nd k op left hh lba q f0 r0 H hn h5 hl h2 hx hk
        by_cases h6 : op = 2
        · exact bd_p0c size l c i ps fr lv xs o nd k op left hh lba q f0 r0 H hn h6 hl h2 hx hk
        exact bd_q0c size l c i ps fr lv xs o nd k op left hh lba q f0 r0 H hn ⟨h0, h5, h6⟩ hl h2 hx hk
  · simp only [SSp, MMp]
    refine WS.pseq rfl ?_
    refine WS.pseq rfl ?_
    refine WS.pregion rfl ?_
    refine WS.po (tb := tb) rfl rfl rfl rfl rfl ?_
    refine WS.po (tb := tb) rfl rfl rfl rfl rfl ?_
    refine WS.po (tb := tb) rfl rfl rfl rfl rfl ?_
    refine WS.poDF (tb := tb) rfl rfl rfl rfl rfl (by omega) ?_
    refine WS.pend rfl ?_
    refine WS.pcondF rfl rfl ?_
    refine WS.pout rfl rfl ?_
    exact ⟨rfl, (), trivial, (SeenBy.seen (v := [0]) ⟨rfl, rfl, (by simp [viewP, okL, okV, mapL, mapV, mem_get, mapL_cellsR, okL_cellsR]), (by first | exact rfl | exact own2_dist rfl rfl), (by simp only [slotsP, okV, okL, mapV, mapL, and_true, true_and, List.length_cons, List.length_nil, List.length_append, List.length_map, Nat.reduceAdd, Nat.reduceLT]; repeat' (first | exact rfl | refine ⟨?_, ?_⟩ | exact lk_m rfl (hmp _ rfl) | exact hok _ (Nat.le_of_ble_eq_true rfl) | exact lk_i rfl (by omega) | exact lk_sl rfl (by omega) (by omega) (by omega) | decide | omega))⟩)⟩
theorem plays_main (size : Nat) (l : List Act) (a : Option (Nat × Nat)) (c : Nat) (h1 : 1 ≤ size) (h2 : size ≤ 60) (hl : l.length ≤ 200) (ha : a = none ∨ a = some (0, 0)) (ha0 : 0 < l.length → a = some (0, 0)) :
    FM Try.prog 4 [.i .i64 size, .sl a l.length c false] [some ⟨cellsR rwAct l, 36, false⟩] (fun v _ => v = .b true) := by
  have hok : ∀ n, 0 < n → okV n (.sl a l.length c false) := fun n hn => by
    rcases ha with rfl | rfl
    · trivial
    · exact hn
  have hmp : ∀ s : Nat → Nat, s 0 = 0 → mapV s (.sl a l.length c false) = .sl a l.length c false := fun s hs => by
    rcases ha with rfl | rfl
    · rfl
    · simp [mapV, hs]
  refine FM.pbody (tb := tb) (fn := Try.f4) rfl rfl ?_
  simp only [argS, Nat.reduceAdd, List.length_cons, List.length_nil]
  refine WS.pseq rfl ?_
  refine WS.pregion rfl ?_
  refine WS.po (tb := tb) rfl rfl rfl rfl rfl ?_
  refine WS.pend rfl ?_
  refine WS.pseq rfl ?_
  refine WS.pseq rfl ?_
  refine WS.pregion rfl ?_
  refine WS.pcallM (tb := tb) [] awake_fm rfl rfl rfl rfl rfl (by (try simp only [mapL, mapV, List.getD_cons_zero, List.getD_cons_succ]); exact rfl) (by simp [okL, okV, arM, iniP_len]) rfl (by simp [embP, okL, okV, mapL, mapV, mem_next, mem_get, mem_ro, mapL_cellsR, okL_cellsR, arM, iniP_len]) rfl ?_; rintro _ _ ⟨rfl, rfl⟩ -; simp only [plugL, setsL, newsL, isOwn, ownB, over, mapL, mapV, List.getD_cons_zero, List.getD_cons_succ, List.set_cons_zero, List.set_cons_succ, List.length_cons, List.length_nil, Nat.reduceAdd, Nat.reduceLT, Nat.zero_add, if_true, if_false, Nat.reduceSub, reduceIte, List.map_cons, List.map_nil, List.append_nil, List.cons_append, List.nil_append, mapL_cellsR, Nat.lt_irrefl, Nat.not_lt_zero, Nat.zero_lt_succ, Nat.lt_add_one, arM, iniP_len]
  refine WS.poB (tb := tb) false rfl rfl rfl rfl rfl rfl ?_
  refine WS.pend rfl ?_
  refine WS.pcondF rfl rfl ?_
  refine WS.pskip rfl ?_
  refine WS.pseq rfl ?_
  refine WS.pregion rfl ?_
  refine WS.po (tb := tb) rfl rfl rfl rfl rfl ?_
  refine WS.pcallM (tb := tb) [] (new_ok size h1 (by omega)) rfl rfl rfl rfl rfl (by (try simp only [mapL, mapV, List.getD_cons_zero, List.getD_cons_succ]); exact rfl) (by simp [okL, okV, arM, iniP_len]) rfl (by simp [embP, okL, okV, mapL, mapV, mem_next, mem_get, mem_ro, mapL_cellsR, okL_cellsR, arM, iniP_len]) rfl ?_; rintro _ _ ⟨rfl, rfl⟩ -; simp only [plugL, setsL, newsL, isOwn, ownB, over, mapL, mapV, List.getD_cons_zero, List.getD_cons_succ, List.set_cons_zero, List.set_cons_succ, List.length_cons, List.length_nil, Nat.reduceAdd, Nat.reduceLT, Nat.zero_add, if_true, if_false, Nat.reduceSub, reduceIte, List.map_cons, List.map_nil, List.append_nil, List.cons_append, List.nil_append, mapL_cellsR, Nat.lt_irrefl, Nat.not_lt_zero, Nat.zero_lt_succ, Nat.lt_add_one, arM, iniP_len]
  refine WS.po (tb := tb) rfl rfl rfl rfl rfl ?_
  refine WS.po (tb := tb) rfl rfl rfl rfl rfl ?_
  refine WS.po (tb := tb) rfl rfl rfl rfl rfl ?_
  refine WS.po (tb := tb) rfl rfl rfl rfl rfl ?_
  refine WS.po (tb := tb) rfl rfl rfl rfl rfl ?_
  refine WS.pend rfl ?_
  refine WS.pseq rfl ?_
  refine WS.pseq rfl ?_
  refine WS.pregion rfl ?_
  refine WS.po (tb := tb) rfl rfl rfl rfl rfl ?_
  refine WS.poDF (tb := tb) rfl rfl rfl rfl rfl (by omega) ?_
  refine WS.po (tb := tb) rfl rfl rfl rfl rfl ?_
  refine WS.po (tb := tb) rfl rfl rfl rfl rfl ?_
  refine WS.poDF (tb := tb) rfl rfl rfl rfl rfl (by omega) ?_
  refine WS.po (tb := tb) rfl rfl rfl rfl rfl ?_
  refine WS.pend rfl ?_
  refine WS.pcondF rfl rfl ?_
  refine WS.pskip rfl ?_
  refine WS.pseq rfl ?_
  refine WS.pseq rfl ?_
  refine WS.pregion rfl ?_
  refine WS.po (tb := tb) rfl rfl rfl rfl rfl ?_
  refine WS.poB (tb := tb) false rfl rfl rfl rfl rfl rfl ?_
  refine WS.po (tb := tb) rfl rfl rfl rfl rfl ?_
  refine WS.po (tb := tb) rfl rfl rfl rfl rfl ?_
  refine WS.poB (tb := tb) false rfl rfl rfl rfl rfl rfl ?_
  refine WS.po (tb := tb) rfl rfl rfl rfl rfl ?_
  refine WS.po (tb := tb) rfl rfl rfl rfl rfl ?_
  refine WS.po (tb := tb) rfl rfl rfl rfl rfl ?_
  refine WS.po (tb := tb) rfl rfl rfl rfl rfl ?_
  refine WS.poDF (tb := tb) rfl rfl rfl rfl rfl (by omega) ?_
  refine WS.po (tb := tb) rfl rfl rfl rfl rfl ?_
  refine WS.po (tb := tb) rfl rfl rfl rfl rfl ?_
  refine WS.po (tb := tb) rfl rfl rfl rfl rfl ?_
  refine WS.poDF (tb := tb) rfl rfl rfl rfl rfl (by omega) ?_
  refine WS.po (tb := tb) rfl rfl rfl rfl rfl ?_
  refine WS.pend rfl ?_
  refine WS.pcondF rfl rfl ?_
  refine WS.pskip rfl ?_
  refine WS.pseq rfl ?_
  refine WS.pregion rfl ?_
  refine WS.po (tb := tb) rfl rfl rfl rfl rfl ?_
  refine WS.pend rfl ?_
  refine WS.pseq rfl ?_
  refine WS.pseq rfl ?_
  refine WS.pregion rfl ?_
  refine WS.po (tb := tb) rfl rfl rfl rfl rfl ?_
  refine WS.pend rfl ?_
  refine WS.pblock rfl ?_
  refine WS.ploopI (σ := Nat) (τ := Unit) (fun i => [(0, .i .i64 size), (1, .sl a l.length c false), (5, .p (some (2,0))), (7, match i with | 0 => .sl none 0 0 false | k + 1 => .sl (some (3,0)) (k + 1) (k + 1) true), (8, .i .i64 ((i : Int) + 1))])
    (fun i => [some ⟨cellsR rwAct l, 36, false⟩, some ⟨cellsR rwPl (iniP size size), 53, true⟩, some ⟨[.sl (some (1,0)) (size + 1) (size + 1) false, .i .u32 1, .i .i64 0], 51, true⟩, freeBlk (nums (List.range' 1 i)) (List.range' 1 i)]) (fun i => i ≤ size) (fun i => size - i)
    (fun _ => [(0, .i .i64 size), (1, .sl a l.length c false), (5, .p (some (2,0))), (7, .sl (some (3,0)) size size true)])
    (fun _ => [some ⟨cellsR rwAct l, 36, false⟩, some ⟨cellsR rwPl (iniP size size), 53, true⟩, some ⟨[.sl (some (1,0)) (size + 1) (size + 1) false, .i .u32 1, .i .i64 0], 51, true⟩, some ⟨cellsR (rwI .u32) (nums (List.range' 1 size)), 27, true⟩]) (fun _ => True) 0 [0,1,2,3] 0 rfl (Nat.zero_le _) ⟨rfl, rfl, (by simp [viewP, okL, okV, mapL, mapV, mem_get, mapL_cellsR, okL_cellsR, freeBlk, hmp, hok]), (by first | exact rfl | exact own2_dist rfl rfl), (by simp only [slotsP, okV, okL, mapV, mapL, and_true, true_and, List.length_cons, List.length_nil, List.length_append, List.length_map, Nat.reduceAdd, Nat.reduceLT, freeBlk, hmp, hok]; repeat' (first | exact rfl | refine ⟨?_, ?_⟩ | exact lk_m rfl (hmp _ rfl) | exact hok _ (Nat.le_of_ble_eq_true rfl) | exact lk_i rfl (by omega) | exact lk_sl rfl (by omega) (by omega) (by omega) | decide | omega))⟩ rfl ?_ ?_
  · intro i hi
    by_cases h : i < size
    · rcases i with _ | k
      · simp only [List.range'_zero, freeBlk, nums, List.map_nil]
        refine WS.pseq rfl ?_
        refine WS.pseq rfl ?_
        refine WS.pregion rfl ?_
        refine WS.po (tb := tb) rfl rfl rfl rfl rfl ?_
        refine WS.po (tb := tb) rfl rfl rfl rfl rfl ?_
        refine WS.poDT (tb := tb) rfl rfl rfl rfl rfl (by omega) ?_
        refine WS.pend rfl ?_
        refine WS.pcondT rfl rfl ?_
        refine WS.pskip rfl ?_
        refine WS.pseq rfl ?_
        refine WS.pblock rfl ?_
        refine WS.pregion rfl ?_
        refine WS.po (tb := tb) rfl rfl rfl rfl rfl ?_
        refine WS.po (tb := tb) rfl rfl rfl rfl rfl ?_
        refine WS.poW (tb := tb) rfl rfl rfl rfl rfl (by simp only [lo]; omega) (by simp only [Am.hi]; omega) ?_
        refine WS.po (tb := tb) rfl rfl rfl rfl rfl ?_; rw [new_mem]; simp only [List.cons_append, List.nil_append, vcells, mem_next, List.length_cons, List.length_nil, Nat.zero_add, Nat.reduceAdd, reps, List.append_nil, setL, List.set_cons_zero, List.set_cons_succ, Nat.zero_mul, Nat.reduceMul]
        refine WS.po (tb := tb) rfl rfl rfl rfl (step_H rfl rfl (evH_append_nil rfl rfl rfl rfl rfl rfl rfl rfl rfl rfl (by omega) (by omega) (cellsAt_all rfl rfl) (by first | exact rfl | (simp only [Pl_len, Act_len, Nd_len, vcells, List.length_cons, List.length_nil, cellsI_len, cellsB_len, List.length_set, List.length_replicate, List.length_append, List.length_map, List.length_take, List.length_drop]; omega) | omega) (by omega))) ?_; (try rw [upd_mem _ rfl]); (try rw [new_mem]); (try simp only [List.set_cons_zero, List.set_cons_succ, List.cons_append, List.nil_append, mem_next, List.length_cons, List.length_nil, Nat.zero_add, Nat.reduceAdd, List.drop_zero, vcells, cellsI_app1, cellsB_app1, cellsI_cons, repsI, repsB, Pl_app1, Pl_reps, Act_app1, Act_reps, Nd_app1, Nd_reps])
        refine WS.po (tb := tb) rfl rfl rfl rfl rfl ?_
        refine WS.pend rfl ?_
        refine WS.pregion rfl ?_
        refine WS.po (tb := tb) rfl rfl rfl rfl rfl ?_
        refine WS.poW (tb := tb) rfl rfl rfl rfl rfl (by simp only [lo]; omega) (by simp only [Am.hi]; omega) ?_
        refine WS.po (tb := tb) rfl rfl rfl rfl rfl ?_
        refine WS.pend rfl ?_
        refine WS.nil ?_
        exact ⟨1, by omega, by omega, (SeenBy.seen (v := [0,1,2,5]) ⟨rfl, rfl, (by simp [viewP, okL, okV, mapL, mapV, mem_get, mapL_cellsR, okL_cellsR, freeBlk, nums, hmp, hok, List.range'_one, cellsI_sing]), (by first | exact rfl | exact own2_dist rfl rfl), (by simp only [slotsP, okV, okL, mapV, mapL, and_true, true_and, List.length_cons, List.length_nil, List.length_append, List.length_map, Nat.reduceAdd, Nat.reduceLT, freeBlk, nums, hmp, hok, List.range'_one, cellsI_sing]; repeat' (first | exact rfl | refine ⟨?_, ?_⟩ | exact lk_m rfl (hmp _ rfl) | exact hok _ (Nat.le_of_ble_eq_true rfl) | exact lk_i rfl (by omega) | exact lk_sl rfl (by omega) (by omega) (by omega) | decide | omega))⟩)⟩
      · have e1 : nums (List.range' 1 (k + 1)) ++ [((k : Int) + 1 + 1)] = nums (List.range' 1 (k + 1 + 1)) := by
          have : List.range' 1 (k + 1 + 1) = List.range' 1 (k + 1) ++ [k + 1 + 1] := by rw [List.range'_1_concat]; congr 2; omega
          rw [this]; simp [nums]
        have e2 : (nums (List.range' 1 (k + 1))).length = k + 1 := by simp [nums]
        have e3 : freeBlk (nums (List.range' 1 (k + 1))) (List.range' 1 (k + 1)) = some ⟨cellsR (rwI .u32) (nums (List.range' 1 (k + 1))), 27, true⟩ := rfl
        have e4 : freeBlk (nums (List.range' 1 (k + 1 + 1))) (List.range' 1 (k + 1 + 1)) = some ⟨cellsR (rwI .u32) (nums (List.range' 1 (k + 1 + 1))), 27, true⟩ := rfl
        rw [e3]
        simp only
        refine WS.pseq rfl ?_
        refine WS.pseq rfl ?_
        refine WS.pregion rfl ?_
        refine WS.po (tb := tb) rfl rfl rfl rfl rfl ?_
        refine WS.po (tb := tb) rfl rfl rfl rfl rfl ?_
        refine WS.poDT (tb := tb) rfl rfl rfl rfl rfl (by omega) ?_
        refine WS.pend rfl ?_
        refine WS.pcondT rfl rfl ?_
        refine WS.pskip rfl ?_
        refine WS.pseq rfl ?_
        refine WS.pblock rfl ?_
        refine WS.pregion rfl ?_
        refine WS.po (tb := tb) rfl rfl rfl rfl rfl ?_
        refine WS.po (tb := tb) rfl rfl rfl rfl rfl ?_
        refine WS.poW (tb := tb) rfl rfl rfl rfl rfl (by simp only [lo]; omega) (by simp only [Am.hi]; omega) ?_
        refine WS.po (tb := tb) rfl rfl rfl rfl rfl ?_; rw [new_mem]; simp only [List.cons_append, List.nil_append, vcells, mem_next, List.length_cons, List.length_nil, Nat.zero_add, Nat.reduceAdd, reps, List.append_nil, setL, List.set_cons_zero, List.set_cons_succ, Nat.zero_mul, Nat.reduceMul]
        refine WS.po (tb := tb) rfl rfl rfl rfl (step_H rfl rfl (evH_append_open rfl rfl rfl rfl rfl rfl rfl rfl rfl (by omega) rfl (Nat.zero_le _) (by omega) (cellsAt_all rfl rfl) (by first | exact rfl | (simp only [Pl_len, Act_len, Nd_len, vcells, List.length_cons, List.length_nil, cellsI_len, cellsB_len, List.length_set, List.length_replicate, List.length_append, List.length_map, List.length_take, List.length_drop, e2]; omega) | omega) (by first | exact rfl | (simp only [Pl_len, Act_len, Nd_len, vcells, List.length_cons, List.length_nil, cellsI_len, cellsB_len, List.length_set, List.length_replicate, List.length_append, List.length_map, List.length_take, List.length_drop, e2]; omega) | omega) rfl (by omega))) ?_; (try rw [upd_mem _ rfl]); (try rw [new_mem]); (try simp only [List.set_cons_zero, List.set_cons_succ, List.cons_append, List.nil_append, mem_next, List.length_cons, List.length_nil, Nat.zero_add, Nat.reduceAdd, List.drop_zero, vcells, cellsI_app1, cellsB_app1, cellsI_cons, repsI, repsB, Pl_app1, Pl_reps, Act_app1, Act_reps, Nd_app1, Nd_reps])
        refine WS.po (tb := tb) rfl rfl rfl rfl rfl ?_
        refine WS.pend rfl ?_
        refine WS.pregion rfl ?_
        refine WS.po (tb := tb) rfl rfl rfl rfl rfl ?_
        refine WS.poW (tb := tb) rfl rfl rfl rfl rfl (by simp only [lo]; omega) (by simp only [Am.hi]; omega) ?_
        refine WS.po (tb := tb) rfl rfl rfl rfl rfl ?_
        refine WS.pend rfl ?_
        refine WS.nil ?_
        exact ⟨k + 1 + 1, by omega, by omega, by rw [e4]; exact (SeenBy.seen (v := [0,1,2,5]) ⟨rfl, rfl, (by simp [viewP, okL, okV, mapL, mapV, mem_get, mapL_cellsR, okL_cellsR, hmp, hok, e1]), (by first | exact rfl | exact own2_dist rfl rfl), (by simp only [slotsP, okV, okL, mapV, mapL, and_true, true_and, List.length_cons, List.length_nil, List.length_append, List.length_map, Nat.reduceAdd, Nat.reduceLT, hmp, hok, e1]; repeat' (first | exact rfl | refine ⟨?_, ?_⟩ | exact lk_m rfl (hmp _ rfl) | exact hok _ (Nat.le_of_ble_eq_true rfl) | exact lk_i rfl (by omega) | exact lk_sl rfl (by omega) (by omega) (by omega) | decide | omega))⟩)⟩
    · obtain rfl : i = size := by omega
      rcases i with _ | k
      · omega
      · have e3 : freeBlk (nums (List.range' 1 (k + 1))) (List.range' 1 (k + 1)) = some ⟨cellsR (rwI .u32) (nums (List.range' 1 (k + 1))), 27, true⟩ := rfl
        rw [e3]
        simp only
        refine WS.pseq rfl ?_
        refine WS.pseq rfl ?_
        refine WS.pregion rfl ?_
        refine WS.po (tb := tb) rfl rfl rfl rfl rfl ?_
        refine WS.po (tb := tb) rfl rfl rfl rfl rfl ?_
        refine WS.poDF (tb := tb) rfl rfl rfl rfl rfl (by omega) ?_
        refine WS.pend rfl ?_
        refine WS.pcondF rfl rfl ?_
        refine WS.pout rfl rfl ?_
        exact ⟨rfl, (), trivial, (SeenBy.seen (v := [0,1,2,3]) ⟨rfl, rfl, (by simp [viewP, okL, okV, mapL, mapV, mem_get, mapL_cellsR, okL_cellsR, hmp, hok]), (by first | exact rfl | exact own2_dist rfl rfl), (by simp only [slotsP, okV, okL, mapV, mapL, and_true, true_and, List.length_cons, List.length_nil, List.length_append, List.length_map, Nat.reduceAdd, Nat.reduceLT, hmp, hok]; repeat' (first | exact rfl | refine ⟨?_, ?_⟩ | exact lk_m rfl (hmp _ rfl) | exact hok _ (Nat.le_of_ble_eq_true rfl) | exact lk_i rfl (by omega) | exact lk_sl rfl (by omega) (by omega) (by omega) | decide | omega))⟩)⟩
  · rintro _ -
    refine WS.pseq rfl ?_
    refine WS.pregion rfl ?_
    refine WS.po (tb := tb) rfl rfl rfl rfl rfl ?_
    refine WS.poW (tb := tb) rfl rfl rfl rfl rfl (by simp only [lo]; omega) (by simp only [Am.hi]; omega) ?_
    refine WS.po (tb := tb) rfl rfl rfl rfl (step_H rfl rfl (evH_make (m := (size+1)) (n := (size+1)) rfl rfl rfl rfl rfl rfl rfl rfl (by omega) (by omega) (by omega) (Nat.le_refl _) (by omega) (by omega))) ?_; (try rw [upd_mem _ rfl]); (try rw [new_mem]); (try simp only [List.set_cons_zero, List.set_cons_succ, List.cons_append, List.nil_append, mem_next, List.length_cons, List.length_nil, Nat.zero_add, Nat.reduceAdd, List.drop_zero, vcells, cellsI_app1, cellsB_app1, cellsI_cons, repsI, repsB, Pl_app1, Pl_reps, Act_app1, Act_reps, Nd_app1, Nd_reps])
    refine WS.po (tb := tb) rfl rfl rfl rfl rfl ?_
    refine WS.pend rfl ?_
    refine WS.pseq rfl ?_
    refine WS.pregion rfl ?_
    refine WS.po (tb := tb) rfl rfl rfl rfl rfl ?_
    refine WS.poW (tb := tb) rfl rfl rfl rfl rfl (by simp only [lo]; omega) (by simp only [Am.hi]; omega) ?_
    refine WS.po (tb := tb) rfl rfl rfl rfl (step_H rfl rfl (evH_make (m := (size+1)) (n := (size+1)) rfl rfl rfl rfl rfl rfl rfl rfl (by omega) (by omega) (by omega) (Nat.le_refl _) (by omega) (by omega))) ?_; (try rw [upd_mem _ rfl]); (try rw [new_mem]); (try simp only [List.set_cons_zero, List.set_cons_succ, List.cons_append, List.nil_append, mem_next, List.length_cons, List.length_nil, Nat.zero_add, Nat.reduceAdd, List.drop_zero, vcells, cellsI_app1, cellsB_app1, cellsI_cons, repsI, repsB, Pl_app1, Pl_reps, Act_app1, Act_reps, Nd_app1, Nd_reps])
    refine WS.po (tb := tb) rfl rfl rfl rfl rfl ?_
    refine WS.pend rfl ?_
    refine WS.pseq rfl ?_
    refine WS.pseq rfl ?_
    refine WS.pregion rfl ?_
    refine WS.po (tb := tb) rfl rfl rfl rfl rfl ?_
    refine WS.pend rfl ?_
    refine WS.pblock rfl ?_
    rw [← iniP_lives]
    have e5 : freeBlk (nums (List.range' 1 size)) (List.range' 1 size) = some ⟨cellsR (rwI .u32) (nums (List.range' 1 size)), 27, true⟩ := by
      obtain ⟨m, rfl⟩ : ∃ m, size = m + 1 := ⟨size - 1, by omega⟩
      rfl
    refine WS.ploopI (σ := St) (τ := Unit) (SSp size a l.length c) (MMp l) (Inv size l.length) (fun s => l.length - s.i) (fun _ => []) (fun _ => [some ⟨cellsR rwAct l, 36, false⟩]) (fun _ => True) 2 [0,1,2,3,4,5] ⟨0, iniP size size, 1, 0, List.range' 1 size, nums (List.range' 1 size), 0, true, List.replicate (size + 1) ⟨0, 0, 0, 0, 0, 0⟩⟩ rfl (inv_ini size l.length h1) ⟨rfl, rfl, (by simp [viewP, okL, okV, mapL, mapV, mem_get, mapL_cellsR, okL_cellsR, SSp, MMp, e5, iniP_len, List.length_range']), (by first | exact rfl | exact own2_dist rfl rfl), (by simp only [slotsP, okV, okL, mapV, mapL, and_true, true_and, List.length_cons, List.length_nil, List.length_append, List.length_map, Nat.reduceAdd, Nat.reduceLT, SSp, MMp, e5, iniP_len, List.length_range']; repeat' (first | exact rfl | refine ⟨?_, ?_⟩ | exact lk_m rfl (hmp _ rfl) | exact hok _ (Nat.le_of_ble_eq_true rfl) | exact lk_i rfl (by omega) | exact lk_sl rfl (by omega) (by omega) (by omega) | decide | omega))⟩ rfl ?_ ?_
    · intro s H
      refine WE.mono (fun x t' h' hq => ?_) (body_all size l a c h2 hl ha0 s H)
      cases x with
      | n => exact hq
      | x j => exact hq
      | r => exact hq.elim
    · rintro _ -
      refine WS.pseq rfl ?_
      refine WS.pregion rfl ?_
      refine WS.po (tb := tb) rfl rfl rfl rfl rfl ?_
      refine WS.pend rfl ?_
      refine WS.pret rfl ⟨.inr rfl, _, rfl, ?_⟩
      exact ⟨_, rfl, rfl⟩
end Go.Proofs.Ytjoocblinfnhgaa.Am

