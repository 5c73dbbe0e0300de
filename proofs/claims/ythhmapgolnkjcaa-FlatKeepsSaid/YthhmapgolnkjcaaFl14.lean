/- FlatKeeps answers true for any sizes and any calls, in every world. Conditions: the row lies in memory. -/
import Derived.Test.YthhmapgolnkjcaaFl13
namespace Go.Proofs.Ythhmapgolnkjcaa.Am
open Go.Proofs
set_option maxRecDepth 1000000
set_option maxHeartbeats 4000000
set_option linter.unusedSimpArgs false
set_option linter.unusedVariables false
theorem runsN_rep (c : Nat) : ∀ i, i ≤ c → runsN (List.replicate c (-1)) i = []
  | 0, _ => rfl
  | i + 1, h => by
    have ih := runsN_rep c i (by omega)
    have e : (List.replicate c (-1 : Int)).getD i 0 = -1 := getD_of (by rw [List.getElem?_replicate, if_pos (by omega)])
    simp only [runsN]
    rw [e, if_pos (by omega)]
    exact ih
theorem keep_all (cap m : Nat) (l : List Act) (a : Option (Nat × Nat)) (c : Nat) (hl : l.length ≤ 60) (hc0 : 1 ≤ cap) (hc : cap ≤ 64) (hm : m ≤ 512) (ha0 : 0 < l.length → a = some (0, 0)) (s : StK) (H : InvK cap m l.length s) :
    WS Try.prog (frameN Try.f5 3) 1 [.c (k1 (k1 (k2 (k1 (k2 (k2 (k2 (k2 (kb Try.f5)))))))))] (slt (SSk cap m a l.length c s)) (mem 0 (MMk l cap m s)) (fun x t' h' => match x with
      | .n => ∃ s', InvK cap m l.length s' ∧ l.length - s'.i < l.length - s.i ∧ Seen 1 t' h' (SSk cap m a l.length c s') (MMk l cap m s')
      | .x j => j = 0 ∧ ∃ b : Unit, True ∧ Seen 1 t' h' [] [some ⟨cellsR rwAct l, 34, false⟩]
      | .r => False) := by
  have hi := H.i
  obtain ⟨i, t, q⟩ := s
  dsimp only at hi
  by_cases h : i < l.length
  · obtain rfl := ha0 (by omega)
    obtain ⟨x, hx⟩ : ∃ x, l[i]? = some x := ⟨_, List.getElem?_eq_getElem h⟩
    obtain ⟨op, z1, z2, phys⟩ := x
    have hlen : t.length = cap := H.len
    by_cases h0 : op = 0
    · subst h0
      by_cases hb : ¬ (1 ≤ z2 ∧ z2 ≤ cap ∧ 0 ≤ z1 ∧ z1 ≤ cap - z2) ∨ phys < 0 ∨ 1048576 < phys
      · exact kp_sbad cap m l c i t q z1 z2 phys hb H hl hc0 hc hm hx
      · have hb1 : 1 ≤ z2 ∧ z2 ≤ cap ∧ 0 ≤ z1 ∧ z1 ≤ cap - z2 := Decidable.not_not.1 (fun h => hb (.inl h))
        obtain ⟨b, rfl⟩ : ∃ b : Nat, z1 = b := ⟨z1.toNat, by omega⟩
        obtain ⟨n, rfl⟩ : ∃ n : Nat, z2 = n := ⟨z2.toNat, by omega⟩
        by_cases hf : (m : Int) < (runsN (putN t b n (fun i : Nat => phys + (i : Int))) cap).length
        · exact kp_sfull cap m l c i t q b n phys (by omega) (by omega) (by omega) (by omega) hf H hl hc0 hc hm hx
        · exact kp_sok cap m l c i t q b n phys (by omega) (by omega) (by omega) (by omega) hf H hl hc0 hc hm hx
    · by_cases hb1 : 1 ≤ z2 ∧ z2 ≤ cap ∧ 0 ≤ z1 ∧ z1 ≤ cap - z2
      · obtain ⟨b, rfl⟩ : ∃ b : Nat, z1 = b := ⟨z1.toNat, by omega⟩
        obtain ⟨n, rfl⟩ : ∃ n : Nat, z2 = n := ⟨z2.toNat, by omega⟩
        by_cases hf : (m : Int) < (runsN (putN t b n (fun _ : Nat => -1)) cap).length
        · exact kp_cfull cap m l c i t q op h0 b n phys (by omega) (by omega) hf H hl hc0 hc hm hx
        · exact kp_cok cap m l c i t q op h0 b n phys (by omega) (by omega) hf H hl hc0 hc hm hx
      · exact kp_cbad cap m l c i t q op z1 z2 phys h0 hb1 H hl hc0 hc hm hx
  · simp only [SSk, MMk]
    refine WS.pseq rfl ?_
    refine WS.pseq rfl ?_
    refine WS.pregion rfl ?_
    refine WS.po (tb := tb) rfl rfl rfl rfl rfl ?_
    refine WS.po (tb := tb) rfl rfl rfl rfl rfl ?_
    refine WS.po (tb := tb) rfl rfl rfl rfl rfl ?_
    refine WS.poDF (tb := tb) rfl rfl rfl rfl rfl (by omega) ?_
    refine WS.pend rfl ?_
    refine WS.pcondF rfl rfl ?_
    refine WS.pout rfl rfl ?_
    exact ⟨rfl, (), trivial, (SeenBy.seen (v := [0]) ⟨rfl, rfl, (by simp [viewP, okL, okV, mapL, mapV, mem_get, mapL_cellsR, okL_cellsR]), (by first | exact rfl | exact own2_dist rfl rfl), (by simp only [slotsP, okV, okL, mapV, mapL, and_true, true_and, List.length_cons, List.length_nil, List.length_append, List.length_map, Nat.reduceAdd, Nat.reduceLT]; repeat' (first | exact rfl | refine ⟨?_, ?_⟩ | exact lk_m rfl (hmp _ rfl) | exact hok _ (Nat.le_of_ble_eq_true rfl) | exact lk_i rfl (by omega) | exact lk_sl rfl (by omega) (by omega) (by omega) | decide | omega))⟩)⟩
theorem keeps_main (cap m : Nat) (l : List Act) (a : Option (Nat × Nat)) (c : Nat) (h1 : 1 ≤ cap) (h2 : cap ≤ 64) (h3 : 1 ≤ m) (h4 : m ≤ 512) (hl : l.length ≤ 60) (ha : a = none ∨ a = some (0, 0)) (ha0 : 0 < l.length → a = some (0, 0)) :
    FM Try.prog 5 [.i .i64 cap, .i .i64 m, .sl a l.length c false] [some ⟨cellsR rwAct l, 34, false⟩] (fun v _ => v = .b true) := by
  have hok : ∀ n, 0 < n → okV n (.sl a l.length c false) := fun n hn => by
    rcases ha with rfl | rfl
    · trivial
    · exact hn
  have hmp : ∀ s : Nat → Nat, s 0 = 0 → mapV s (.sl a l.length c false) = .sl a l.length c false := fun s hs => by
    rcases ha with rfl | rfl
    · rfl
    · simp [mapV, hs]
  have hbn : Bnd (List.replicate cap (-1)) := fun x hx => by rw [(List.mem_replicate.1 hx).2]; omega
  refine FM.pbody (tb := tb) (fn := Try.f5) rfl rfl ?_
  simp only [argS, Nat.reduceAdd, List.length_cons, List.length_nil]
  refine WS.pseq rfl ?_
  refine WS.pregion rfl ?_
  refine WS.po (tb := tb) rfl rfl rfl rfl rfl ?_
  refine WS.pend rfl ?_
  refine WS.pseq rfl ?_
  refine WS.pseq rfl ?_
  refine WS.pregion rfl ?_
  refine WS.pcallM (tb := tb) [] awake_fm rfl rfl rfl rfl rfl (by (try simp only [mapL, mapV, List.getD_cons_zero, List.getD_cons_succ]); exact rfl) (by simp [okL, okV, mapM, List.length_replicate]; fail_if_success exfalso) rfl (by simp [embP, okL, okV, mapL, mapV, mem_next, mem_get, mem_ro, mapL_cellsR, okL_cellsR, mapM, List.length_replicate]; fail_if_success exfalso) rfl ?_; rintro _ _ ⟨rfl, rfl⟩ -; simp only [plugL, setsL, newsL, isOwn, ownB, over, mapL, mapV, List.getD_cons_zero, List.getD_cons_succ, List.set_cons_zero, List.set_cons_succ, List.length_cons, List.length_nil, Nat.reduceAdd, Nat.reduceLT, Nat.zero_add, if_true, if_false, Nat.reduceSub, reduceIte, List.map_cons, List.map_nil, List.append_nil, List.cons_append, List.nil_append, mapL_cellsR, Nat.lt_irrefl, Nat.not_lt_zero, Nat.zero_lt_succ, Nat.lt_add_one, mapM, List.length_replicate]
  refine WS.poB (tb := tb) false rfl rfl rfl rfl rfl rfl ?_
  refine WS.pend rfl ?_
  refine WS.pcondF rfl rfl ?_
  refine WS.pskip rfl ?_
  refine WS.pseq rfl ?_
  refine WS.pregion rfl ?_
  refine WS.po (tb := tb) rfl rfl rfl rfl rfl ?_
  refine WS.po (tb := tb) rfl rfl rfl rfl rfl ?_
  refine WS.pcallM (tb := tb) [] (new_ok cap m h1 (by omega) h3 h4) rfl rfl rfl rfl rfl (by (try simp only [mapL, mapV, List.getD_cons_zero, List.getD_cons_succ]); exact rfl) (by simp [okL, okV, mapM, List.length_replicate]; fail_if_success exfalso) rfl (by simp [embP, okL, okV, mapL, mapV, mem_next, mem_get, mem_ro, mapL_cellsR, okL_cellsR, mapM, List.length_replicate]; fail_if_success exfalso) rfl ?_; rintro _ _ ⟨rfl, rfl⟩ -; simp only [plugL, setsL, newsL, isOwn, ownB, over, mapL, mapV, List.getD_cons_zero, List.getD_cons_succ, List.set_cons_zero, List.set_cons_succ, List.length_cons, List.length_nil, Nat.reduceAdd, Nat.reduceLT, Nat.zero_add, if_true, if_false, Nat.reduceSub, reduceIte, List.map_cons, List.map_nil, List.append_nil, List.cons_append, List.nil_append, mapL_cellsR, Nat.lt_irrefl, Nat.not_lt_zero, Nat.zero_lt_succ, Nat.lt_add_one, mapM, List.length_replicate]
  refine WS.po (tb := tb) rfl rfl rfl rfl rfl ?_
  refine WS.po (tb := tb) rfl rfl rfl rfl rfl ?_
  refine WS.po (tb := tb) rfl rfl rfl rfl rfl ?_
  refine WS.po (tb := tb) rfl rfl rfl rfl rfl ?_
  refine WS.po (tb := tb) rfl rfl rfl rfl rfl ?_
  refine WS.pend rfl ?_
  refine WS.pseq rfl ?_
  refine WS.pseq rfl ?_
  refine WS.pregion rfl ?_
  refine WS.po (tb := tb) rfl rfl rfl rfl rfl ?_
  refine WS.poB (tb := tb) false rfl rfl rfl rfl rfl rfl ?_
  refine WS.po (tb := tb) rfl rfl rfl rfl rfl ?_
  refine WS.po (tb := tb) rfl rfl rfl rfl rfl ?_
  refine WS.po (tb := tb) rfl rfl rfl rfl rfl ?_
  refine WS.poDF (tb := tb) rfl rfl rfl rfl rfl (by omega) ?_
  refine WS.po (tb := tb) rfl rfl rfl rfl rfl ?_
  refine WS.po (tb := tb) rfl rfl rfl rfl rfl ?_
  refine WS.po (tb := tb) rfl rfl rfl rfl rfl ?_
  refine WS.poDF (tb := tb) rfl rfl rfl rfl rfl (by omega) ?_
  refine WS.po (tb := tb) rfl rfl rfl rfl rfl ?_
  refine WS.pend rfl ?_
  refine WS.pcondF rfl rfl ?_
  refine WS.pskip rfl ?_
  refine WS.pseq rfl ?_
  refine WS.pseq rfl ?_
  refine WS.pregion rfl ?_
  refine WS.po (tb := tb) rfl rfl rfl rfl rfl ?_
  refine WS.pend rfl ?_
  refine WS.pblock rfl ?_
  refine WS.ploopI (σ := StK) (τ := Unit) (SSk cap m a l.length c) (MMk l cap m) (InvK cap m l.length) (fun s => l.length - s.i) (fun _ => []) (fun _ => [some ⟨cellsR rwAct l, 34, false⟩]) (fun _ => True) 0 [0,1,2] ⟨0, List.replicate cap (-1), false⟩ rfl ⟨Nat.zero_le _, by simp, hbn, by rw [runsN_rep cap cap (Nat.le_refl _)]; simp⟩ ⟨rfl, rfl, (by simp [viewP, okL, okV, mapL, mapV, mem_get, mapL_cellsR, okL_cellsR, SSk, MMk]), (by first | exact rfl | exact own2_dist rfl rfl), (by simp only [slotsP, okV, okL, mapV, mapL, and_true, true_and, List.length_cons, List.length_nil, List.length_append, List.length_map, Nat.reduceAdd, Nat.reduceLT, SSk, MMk]; repeat' (first | exact rfl | refine ⟨?_, ?_⟩ | exact lk_m rfl (hmp _ rfl) | exact hok _ (Nat.le_of_ble_eq_true rfl) | exact lk_i rfl (by omega) | exact lk_sl rfl (by omega) (by omega) (by omega) | decide | omega))⟩ rfl ?_ ?_
  · intro s H
    refine WE.mono (fun x t' h' hq => ?_) (keep_all cap m l a c hl h1 h2 h4 ha0 s H)
    cases x with
    | n => exact hq
    | x j => exact hq
    | r => exact hq.elim
  · rintro _ -
    refine WS.pseq rfl ?_
    refine WS.pregion rfl ?_
    refine WS.po (tb := tb) rfl rfl rfl rfl rfl ?_
    refine WS.pend rfl ?_
    refine WS.pret rfl ⟨.inr rfl, _, rfl, ?_⟩
    exact ⟨_, rfl, rfl⟩
theorem keeps_bad (z1 z2 : Int) (l : List Act) (a : Option (Nat × Nat)) (c : Nat) (h : z1 < 1 ∨ 512 < z1 ∨ z2 < 1 ∨ 512 < z2) : FM Try.prog 5 [.i .i64 z1, .i .i64 z2, .sl a l.length c false] [some ⟨cellsR rwAct l, 34, false⟩] (fun v _ => v = .b true) := by
  refine FM.pbody (tb := tb) (fn := Try.f5) rfl rfl ?_
  simp only [argS, Nat.reduceAdd, List.length_cons, List.length_nil]
  refine WS.pseq rfl ?_
  refine WS.pregion rfl ?_
  refine WS.po (tb := tb) rfl rfl rfl rfl rfl ?_
  refine WS.pend rfl ?_
  refine WS.pseq rfl ?_
  refine WS.pseq rfl ?_
  refine WS.pregion rfl ?_
  refine WS.pcallM (tb := tb) [] awake_fm rfl rfl rfl rfl rfl (by (try simp only [mapL, mapV, List.getD_cons_zero, List.getD_cons_succ]); exact rfl) (by simp [okL, okV]; fail_if_success exfalso) rfl (by simp [embP, okL, okV, mapL, mapV, mem_next, mem_get, mem_ro, mapL_cellsR, okL_cellsR]; fail_if_success exfalso) rfl ?_; rintro _ _ ⟨rfl, rfl⟩ -; simp only [plugL, setsL, newsL, isOwn, ownB, over, mapL, mapV, List.getD_cons_zero, List.getD_cons_succ, List.set_cons_zero, List.set_cons_succ, List.length_cons, List.length_nil, Nat.reduceAdd, Nat.reduceLT, Nat.zero_add, if_true, if_false, Nat.reduceSub, reduceIte, List.map_cons, List.map_nil, List.append_nil, List.cons_append, List.nil_append, mapL_cellsR, Nat.lt_irrefl, Nat.not_lt_zero, Nat.zero_lt_succ, Nat.lt_add_one]
  refine WS.poB (tb := tb) false rfl rfl rfl rfl rfl rfl ?_
  refine WS.pend rfl ?_
  refine WS.pcondF rfl rfl ?_
  refine WS.pskip rfl ?_
  refine WS.pseq rfl ?_
  refine WS.pregion rfl ?_
  refine WS.po (tb := tb) rfl rfl rfl rfl rfl ?_
  refine WS.po (tb := tb) rfl rfl rfl rfl rfl ?_
  refine WS.pcallM (tb := tb) [] (new_bad z1 z2 h) rfl rfl rfl rfl rfl (by (try simp only [mapL, mapV, List.getD_cons_zero, List.getD_cons_succ]); exact rfl) (by simp [okL, okV]; fail_if_success exfalso) rfl (by simp [embP, okL, okV, mapL, mapV, mem_next, mem_get, mem_ro, mapL_cellsR, okL_cellsR]; fail_if_success exfalso) rfl ?_; rintro _ _ ⟨rfl, rfl⟩ -; simp only [plugL, setsL, newsL, isOwn, ownB, over, mapL, mapV, List.getD_cons_zero, List.getD_cons_succ, List.set_cons_zero, List.set_cons_succ, List.length_cons, List.length_nil, Nat.reduceAdd, Nat.reduceLT, Nat.zero_add, if_true, if_false, Nat.reduceSub, reduceIte, List.map_cons, List.map_nil, List.append_nil, List.cons_append, List.nil_append, mapL_cellsR, Nat.lt_irrefl, Nat.not_lt_zero, Nat.zero_lt_succ, Nat.lt_add_one]
  refine WS.po (tb := tb) rfl rfl rfl rfl rfl ?_
  refine WS.po (tb := tb) rfl rfl rfl rfl rfl ?_
  refine WS.po (tb := tb) rfl rfl rfl rfl rfl ?_
  refine WS.po (tb := tb) rfl rfl rfl rfl rfl ?_
  refine WS.po (tb := tb) rfl rfl rfl rfl rfl ?_
  refine WS.pend rfl ?_
  refine WS.pseq rfl ?_
  refine WS.pseq rfl ?_
  refine WS.pregion rfl ?_
  refine WS.po (tb := tb) rfl rfl rfl rfl rfl ?_
  refine WS.poB (tb := tb) true rfl rfl rfl rfl rfl rfl ?_
  refine WS.po (tb := tb) rfl rfl rfl rfl rfl ?_
  refine WS.pono rfl rfl rfl rfl ?_
  refine WS.pono rfl rfl rfl rfl ?_
  refine WS.pono rfl rfl rfl rfl ?_
  refine WS.po (tb := tb) rfl rfl rfl rfl rfl ?_
  refine WS.po (tb := tb) rfl rfl rfl rfl rfl ?_
  refine WS.pono rfl rfl rfl rfl ?_
  refine WS.pono rfl rfl rfl rfl ?_
  refine WS.po (tb := tb) rfl rfl rfl rfl rfl ?_
  refine WS.pend rfl ?_
  refine WS.pcondT rfl rfl ?_
  refine WS.pseq rfl ?_
  refine WS.pregion rfl ?_
  refine WS.po (tb := tb) rfl rfl rfl rfl rfl ?_
  refine WS.pend rfl ?_
  refine WS.pret rfl ⟨.inr rfl, _, rfl, ?_⟩
  all_goals exact ⟨_, rfl, rfl⟩
theorem keeps_far (cap m : Nat) (l : List Act) (a : Option (Nat × Nat)) (c : Nat) (h1 : 1 ≤ cap) (h2 : cap ≤ 512) (h3 : 1 ≤ m) (h4 : m ≤ 512) (h : 60 < l.length ∨ 64 < cap) (hl : l.length ≤ 9223372036854775807) : FM Try.prog 5 [.i .i64 cap, .i .i64 m, .sl a l.length c false] [some ⟨cellsR rwAct l, 34, false⟩] (fun v _ => v = .b true) := by
  refine FM.pbody (tb := tb) (fn := Try.f5) rfl rfl ?_
  simp only [argS, Nat.reduceAdd, List.length_cons, List.length_nil]
  focus
    refine WS.pseq rfl ?_
    refine WS.pregion rfl ?_
    refine WS.po (tb := tb) rfl rfl rfl rfl rfl ?_
    refine WS.pend rfl ?_
    refine WS.pseq rfl ?_
    refine WS.pseq rfl ?_
    refine WS.pregion rfl ?_
    refine WS.pcallM (tb := tb) [] awake_fm rfl rfl rfl rfl rfl (by (try simp only [mapL, mapV, List.getD_cons_zero, List.getD_cons_succ]); exact rfl) (by simp [okL, okV, mapM, List.length_replicate]; fail_if_success exfalso) rfl (by simp [embP, okL, okV, mapL, mapV, mem_next, mem_get, mem_ro, mapL_cellsR, okL_cellsR, mapM, List.length_replicate]; fail_if_success exfalso) rfl ?_; rintro _ _ ⟨rfl, rfl⟩ -; simp only [plugL, setsL, newsL, isOwn, ownB, over, mapL, mapV, List.getD_cons_zero, List.getD_cons_succ, List.set_cons_zero, List.set_cons_succ, List.length_cons, List.length_nil, Nat.reduceAdd, Nat.reduceLT, Nat.zero_add, if_true, if_false, Nat.reduceSub, reduceIte, List.map_cons, List.map_nil, List.append_nil, List.cons_append, List.nil_append, mapL_cellsR, Nat.lt_irrefl, Nat.not_lt_zero, Nat.zero_lt_succ, Nat.lt_add_one, mapM, List.length_replicate]
    refine WS.poB (tb := tb) false rfl rfl rfl rfl rfl rfl ?_
    refine WS.pend rfl ?_
    refine WS.pcondF rfl rfl ?_
    refine WS.pskip rfl ?_
    refine WS.pseq rfl ?_
    refine WS.pregion rfl ?_
    refine WS.po (tb := tb) rfl rfl rfl rfl rfl ?_
    refine WS.po (tb := tb) rfl rfl rfl rfl rfl ?_
    refine WS.pcallM (tb := tb) [] (new_ok cap m h1 h2 h3 h4) rfl rfl rfl rfl rfl (by (try simp only [mapL, mapV, List.getD_cons_zero, List.getD_cons_succ]); exact rfl) (by simp [okL, okV, mapM, List.length_replicate]; fail_if_success exfalso) rfl (by simp [embP, okL, okV, mapL, mapV, mem_next, mem_get, mem_ro, mapL_cellsR, okL_cellsR, mapM, List.length_replicate]; fail_if_success exfalso) rfl ?_; rintro _ _ ⟨rfl, rfl⟩ -; simp only [plugL, setsL, newsL, isOwn, ownB, over, mapL, mapV, List.getD_cons_zero, List.getD_cons_succ, List.set_cons_zero, List.set_cons_succ, List.length_cons, List.length_nil, Nat.reduceAdd, Nat.reduceLT, Nat.zero_add, if_true, if_false, Nat.reduceSub, reduceIte, List.map_cons, List.map_nil, List.append_nil, List.cons_append, List.nil_append, mapL_cellsR, Nat.lt_irrefl, Nat.not_lt_zero, Nat.zero_lt_succ, Nat.lt_add_one, mapM, List.length_replicate]
    refine WS.po (tb := tb) rfl rfl rfl rfl rfl ?_
    refine WS.po (tb := tb) rfl rfl rfl rfl rfl ?_
    refine WS.po (tb := tb) rfl rfl rfl rfl rfl ?_
    refine WS.po (tb := tb) rfl rfl rfl rfl rfl ?_
    refine WS.po (tb := tb) rfl rfl rfl rfl rfl ?_
    refine WS.pend rfl ?_
    refine WS.pseq rfl ?_
    refine WS.pseq rfl ?_
    refine WS.pregion rfl ?_
    refine WS.po (tb := tb) rfl rfl rfl rfl rfl ?_
    refine WS.poB (tb := tb) false rfl rfl rfl rfl rfl rfl ?_
    refine WS.po (tb := tb) rfl rfl rfl rfl rfl ?_
    refine WS.po (tb := tb) rfl rfl rfl rfl rfl ?_
    refine WS.po (tb := tb) rfl rfl rfl rfl rfl ?_
    refine WS.poDS (tb := tb) rfl rfl rfl rfl rfl (fun hb__ => ?_) (fun hb__ => ?_)
    refine WS.po (tb := tb) rfl rfl rfl rfl rfl ?_
    refine WS.po (tb := tb) rfl rfl rfl rfl rfl ?_
    refine WS.pono rfl rfl rfl rfl ?_
    refine WS.pono rfl rfl rfl rfl ?_
    refine WS.po (tb := tb) rfl rfl rfl rfl rfl ?_
    refine WS.pend rfl ?_
    refine WS.pcondT rfl rfl ?_
    refine WS.pseq rfl ?_
    refine WS.pregion rfl ?_
    refine WS.po (tb := tb) rfl rfl rfl rfl rfl ?_
    refine WS.pend rfl ?_
    refine WS.pret rfl ⟨.inr rfl, _, rfl, ?_⟩
    rotate_left
    refine WS.po (tb := tb) rfl rfl rfl rfl rfl ?_
    refine WS.po (tb := tb) rfl rfl rfl rfl rfl ?_
    refine WS.po (tb := tb) rfl rfl rfl rfl rfl ?_
    refine WS.poDT (tb := tb) rfl rfl rfl rfl rfl (by omega) ?_
    refine WS.po (tb := tb) rfl rfl rfl rfl rfl ?_
    refine WS.pend rfl ?_
    refine WS.pcondT rfl rfl ?_
    refine WS.pseq rfl ?_
    refine WS.pregion rfl ?_
    refine WS.po (tb := tb) rfl rfl rfl rfl rfl ?_
    refine WS.pend rfl ?_
    refine WS.pret rfl ⟨.inr rfl, _, rfl, ?_⟩
    rotate_left
  all_goals exact ⟨_, rfl, rfl⟩
theorem keeps_calls (z1 z2 : Int) (a : Option Addr) (c : Nat) (l : List Act) (W : World) (_ : (Lit.int .i64 z1).wf = true) (_ : (Lit.int .i64 z2).wf = true) (hr : RowIn W a (cellsR rwAct l)) (hc : l.length ≤ c) (hm' : l.length ≤ maxLen) {p : Act → Prop} (_ : ∀ y ∈ l, p y) :
    Calls Try.prog 5 #[.int .i64 z1, .int .i64 z2, .slice a l.length c] W (fun e w' => e = .returned (.bool true) ∧ Go.RowKit.Below W.heap.size W w') := by
  have hm : l.length ≤ 9223372036854775807 := Nat.le_trans hm' (by decide)
  have key : FM Try.prog 5 [.i .i64 z1, .i .i64 z2, .sl (argA a 0) l.length c false] [some ⟨cellsR rwAct l, 34, false⟩] (fun v _ => v = .b true) := by
    by_cases h : z1 < 1 ∨ 512 < z1 ∨ z2 < 1 ∨ 512 < z2
    · exact keeps_bad z1 z2 l _ c h
    · obtain ⟨n, rfl⟩ : ∃ n : Nat, z1 = n := ⟨z1.toNat, by omega⟩
      obtain ⟨m, rfl⟩ : ∃ n : Nat, z2 = n := ⟨z2.toNat, by omega⟩
      by_cases h2 : 60 < l.length ∨ 64 < n
      · exact keeps_far n m l _ c (by omega) (by omega) (by omega) (by omega) h2 hm
      · exact keeps_main n m l _ c (by omega) (by omega) (by omega) (by omega) (by omega) (argA_or a 0) (fun h3 => argA_some hr (by rw [Act_len]; omega) 0)
  have := FM.topR [(a, cellsR rwAct l, 34)] key ⟨trivial, trivial, by cases a <;> simp [argA, okV], trivial⟩ W (fun x hx => by
    rcases List.mem_singleton.1 hx with rfl
    exact ⟨hr, okL_cellsR 0 rwAct l⟩)
  simp only [conL, con_argA [(a, cellsR rwAct l, 34)] 0 (a, cellsR rwAct l, 34) rfl] at this
  exact this
end Go.Proofs.Ythhmapgolnkjcaa.Am

