/- Functions of the flash, walked. Conditions: those of each theorem. -/
import Derived.Test.YtmkolibmadbenaaNr1
namespace Go.Proofs.Ytmkolibmadbenaa.Am
open Go.Proofs
set_option maxRecDepth 1000000
set_option maxHeartbeats 4000000
set_option linter.unusedSimpArgs false
set_option linter.unusedVariables false
theorem rerase_arg (x : NS) (z : Int) (h : z < 0 ∨ x.bk.length ≤ z) (hm : x.bk.length ≤ 1000000) : FM Try.prog 19 [.p (some (4,0)), .i .i64 z] (rfM x) (fun v M' => v = .i .i64 1 ∧ M' = rfM x) := by
  refine FM.pbody (tb := tb) (fn := Try.f19) rfl rfl ?_
  simp only [argS, Nat.reduceAdd, rfM, List.length_cons, List.length_nil]
  by_cases h0 : z < 0
  · refine WS.pseq rfl ?_
    refine jg ?_
    refine jo ?_
    refine je ?_
    iterate 2 refine jq ?_
    refine jg ?_
    refine jo ?_
    refine jDT ?_
    refine jo ?_
    iterate 6 refine jN ?_
    refine jo ?_
    refine je ?_
    refine WS.pcondT rfl rfl ?_
    refine jq ?_
    refine jg ?_
    refine jo ?_
    refine je ?_
    refine WS.pret rfl ⟨.inr rfl, _, rfl, ?_⟩
    exact ⟨_, rfl, rfl, rfl⟩
  · refine WS.pseq rfl ?_
    refine jg ?_
    refine jo ?_
    refine je ?_
    iterate 2 refine jq ?_
    refine jg ?_
    refine jo ?_
    refine jDF ?_
    iterate 4 refine jo ?_
    refine jP ?_
    refine jo ?_
    refine jDT ?_
    refine jo ?_
    refine je ?_
    refine WS.pcondT rfl rfl ?_
    refine jq ?_
    refine jg ?_
    refine jo ?_
    refine je ?_
    refine WS.pret rfl ⟨.inr rfl, _, rfl, ?_⟩
    exact ⟨_, rfl, rfl, rfl⟩
theorem rerase_no (x : NS) (n : Nat) (y : Bk) (e : Int) (hy : x.bk[n]? = some y) (hm : x.bk.length ≤ 1000000) (he : if x.off = true then e = 7 else e = 6 ∧ y.bad = true) : FM Try.prog 19 [.p (some (4,0)), .i .i64 n] (rfM x) (fun v M' => v = .i .i64 e ∧ M' = rfM x) := by
  have hb := (List.getElem?_eq_some_iff.1 hy).1
  have g1 := map_get Bk.bad hy
  refine FM.pbody (tb := tb) (fn := Try.f19) rfl rfl ?_
  simp only [argS, Nat.reduceAdd, rfM, List.length_cons, List.length_nil]
  cases ho : x.off with
  | true =>
    simp only [ho, if_true] at he
    subst he
    simp only [Bool.not_true]
    refine jq ?_
    refine jg ?_
    refine jo ?_
    refine je ?_
    iterate 2 refine jq ?_
    refine jg ?_
    refine jo ?_
    refine jB false ?_
    iterate 4 refine jo ?_
    refine jP ?_
    refine jo ?_
    refine jDF ?_
    refine jo ?_
    refine je ?_
    refine WS.pcondF rfl rfl ?_
    refine WS.pskip rfl ?_
    iterate 2 refine jq ?_
    refine jg ?_
    iterate 2 refine jo ?_
    refine jP ?_
    refine jo ?_
    refine jB true ?_
    refine je ?_
    refine WS.pcondT rfl rfl ?_
    refine jq ?_
    refine jg ?_
    refine jo ?_
    refine je ?_
    refine WS.pret rfl ⟨.inr rfl, _, rfl, ?_⟩
    exact ⟨_, rfl, rfl, rfl⟩
  | false =>
    simp only [ho, Bool.false_eq_true, if_false] at he
    obtain ⟨rfl, hyb⟩ := he
    rw [hyb] at g1
    simp only [Bool.not_false]
    refine jq ?_
    refine jg ?_
    refine jo ?_
    refine je ?_
    iterate 2 refine jq ?_
    refine jg ?_
    refine jo ?_
    refine jB false ?_
    iterate 4 refine jo ?_
    refine jP ?_
    refine jo ?_
    refine jDF ?_
    refine jo ?_
    refine je ?_
    refine WS.pcondF rfl rfl ?_
    refine WS.pskip rfl ?_
    iterate 2 refine jq ?_
    refine jg ?_
    iterate 2 refine jo ?_
    refine jP ?_
    refine jo ?_
    refine jB false ?_
    refine je ?_
    refine WS.pcondF rfl rfl ?_
    refine WS.pskip rfl ?_
    iterate 2 refine jq ?_
    refine jg ?_
    iterate 2 refine jo ?_
    refine jP ?_
    iterate 2 refine jo ?_
    refine jI ?_
    refine WS.po (tb := tb) rfl rfl rfl rfl (step_R rfl (evR_load rfl rfl rfl rfl (cellsB_get g1))) ?_
    refine je ?_
    refine WS.pcondT rfl rfl ?_
    refine jq ?_
    refine jg ?_
    refine jo ?_
    refine je ?_
    refine WS.pret rfl ⟨.inr rfl, _, rfl, ?_⟩
    exact ⟨_, rfl, rfl, rfl⟩
theorem stS_on {x : NS} (h : stB x = true) : (stS x).off = false := by
  simp only [stB, Bool.and_eq_true, Bool.not_eq_true', beq_eq_false_iff_ne] at h
  unfold stS
  rw [h.1, if_neg (by simp), if_neg h.2]
  split
  · rfl
  · exact h.1
theorem rerase_go (x : NS) (n o1 : Nat) (y : Bk) (hy : x.bk[n]? = some y) (hm : x.bk.length ≤ 1000) (h1 : (n : Int) * ((x.p * 68 : Nat) : Int) = ((o1 * 68 : Nat) : Int)) (h2 : ((n : Int) + 1) * ((x.p * 68 : Nat) : Int) = (((o1 + x.p) * 68 : Nat) : Int)) (h3 : (o1 + x.p) * 68 ≤ x.bs.length) (hbs : x.bs.length ≤ 1000000) (hp0 : 0 < x.p) (ho : x.off = false) (hyb : y.bad = false) (hc : x.cut ≤ 9223372036854775807) (hc1 : -1 ≤ x.cut) (hf : x.fail ≤ 9223372036854775807) (hf1 : -1 ≤ x.fail) (her : x.er ≤ 1000000) (her0 : 0 ≤ x.er) :
    FM Try.prog 19 [.p (some (4,0)), .i .i64 n] (rfM x) (fun v M' => v = .i .i64 (erE x n (o1 * 68) (x.p * 68) y) ∧ M' = rfM (erS x n (o1 * 68) (x.p * 68) y)) := by
  have hb := (List.getElem?_eq_some_iff.1 hy).1
  have gb := map_get Bk.bad hy
  rw [hyb] at gb
  have m1 : (x.bk.set n { y with wear := y.wear + 1 }).map Bk.bad = x.bk.map Bk.bad := map_set_id Bk.bad hy rfl
  have m2 : (x.bk.set n { y with wear := y.wear + 1 }).map Bk.torn = x.bk.map Bk.torn := map_set_id Bk.torn hy rfl
  have m3 : (x.bk.set n { y with wear := y.wear + 1 }).map Bk.next = x.bk.map Bk.next := map_set_id Bk.next hy rfl
  have B := rfails_walk { x with er := x.er + 1, bk := x.bk.set n { y with wear := y.wear + 1 } } hf hf1
  obtain ⟨u, hu⟩ : ∃ u, u = erX x n y := ⟨_, rfl⟩
  have hB2 : bgS { x with er := x.er + 1, bk := x.bk.set n { y with wear := y.wear + 1 } } = u := by rw [hu]; rfl
  rw [hB2] at B
  obtain ⟨b1, b2, b3, b4, b5, b6, b7, b8, b9, b10⟩ := bgS_keep { x with er := x.er + 1, bk := x.bk.set n { y with wear := y.wear + 1 } }
  rw [hB2] at b1 b2 b3 b4 b5 b6 b7 b8 b9 b10
  simp only at b1 b2 b3 b4 b5 b6 b7 b8 b9 b10
  have hfl : (({ x with er := x.er + 1, bk := x.bk.set n { y with wear := y.wear + 1 } } : NS).fail == 0) = decide (x.fail = 0) := by simp [Bool.beq_eq_decide_eq]
  rw [hfl] at B
  have S1 := rstep_walk u (b4.trans ho) (by rw [b5]; exact hc)
  obtain ⟨a, ha⟩ : ∃ a, a = stS u := ⟨_, rfl⟩
  rw [← ha] at S1
  obtain ⟨c1, c2, c3, c4, c5, c6, c7, c8, c9⟩ := stS_keep u
  rw [← ha] at c1 c2 c3 c4 c5 c6 c7 c8 c9
  have habs : a.bs = x.bs := c2.trans b2
  have habk : a.bk = x.bk.set n { y with wear := y.wear + 1 } := c3.trans b3
  have hap : a.p = x.p := c1.trans b1
  have hy1 : a.bk[n]? = some { y with wear := y.wear + 1 } := by rw [habk, List.getElem?_set, if_pos rfl, if_pos hb]
  have F1 := rfill_walk a n o1 { y with wear := y.wear + 1 } 0 (.inl rfl) hy1 (by rw [habk, List.length_set]; exact hm) (by rw [hap]; exact h1) (by rw [hap]; exact h2) (by rw [hap, habs]; exact h3) (by rw [habs]; exact hbs)
  rw [hap, show decide ((0 : Int) = 0) = true by decide] at F1
  obtain ⟨d, hd⟩ : ∃ d, d = erF a n (o1 * 68) (x.p * 68) 0 ⟨0, y.bad, true, y.wear + 1⟩ := ⟨_, rfl⟩
  simp only [← hd] at F1
  have hdl : (over2 a.bs (o1 * 68) (List.replicate (x.p * 68) 0)).length = a.bs.length := over2_len (by rw [List.length_replicate, habs]; omega)
  have hy3 : d.bk[n]? = some ⟨0, y.bad, true, y.wear + 1⟩ := by rw [hd]; show (a.bk.set n _)[n]? = _; rw [List.getElem?_set, if_pos rfl, if_pos (by rw [habk]; simpa using hb)]
  have hdlen : d.bk.length = x.bk.length := by rw [hd]; show (a.bk.set n _).length = _; rw [List.length_set, habk, List.length_set]
  have hdbs : d.bs.length = x.bs.length := by rw [hd]; exact hdl.trans (by rw [habs])
  have hdp : d.p = x.p := by rw [hd]; exact hap
  have hE1 : stB u = false → erE x n (o1 * 68) (x.p * 68) y = 7 ∧ erS x n (o1 * 68) (x.p * 68) y = a := fun e => by
    unfold erE erS; rw [← hu, if_pos e]; simp only [if_pos e, ha]; exact ⟨trivial, trivial⟩
  have hE2 : stB u = true → x.fail = 0 → erE x n (o1 * 68) (x.p * 68) y = 6 ∧ erS x n (o1 * 68) (x.p * 68) y = { d with bk := a.bk.set n ⟨0, true, true, y.wear + 1⟩ } := fun e e' => by
    unfold erE erS; rw [← hu]; simp only [e, e', Bool.true_eq_false, if_false, if_true, ← ha, ← hd]; exact ⟨trivial, trivial⟩
  obtain ⟨g, hg⟩ : ∃ g, g = stS d := ⟨_, rfl⟩
  have hE3 : stB u = true → ¬ x.fail = 0 → stB d = false → erE x n (o1 * 68) (x.p * 68) y = 7 ∧ erS x n (o1 * 68) (x.p * 68) y = g := fun e e' e'' => by
    unfold erE erS; rw [← hu]; simp only [e, if_neg e', Bool.true_eq_false, if_false, ← ha, ← hd, e'', if_true, ← hg]; exact ⟨trivial, trivial⟩
  have hE4 : stB u = true → ¬ x.fail = 0 → stB d = true → erE x n (o1 * 68) (x.p * 68) y = 0 ∧ erS x n (o1 * 68) (x.p * 68) y = erF g n (o1 * 68) (x.p * 68) 255 ⟨0, y.bad, false, y.wear + 1⟩ := fun e e' e'' => by
    unfold erE erS; rw [← hu]; simp only [e, if_neg e', Bool.true_eq_false, if_false, ← ha, ← hd, e'', ← hg]; exact ⟨trivial, trivial⟩
  have hrx : rfM { x with er := x.er + 1, bk := x.bk.set n { y with wear := y.wear + 1 } } = rfM { x with er := x.er + 1 } := by simp only [rfM, m1, m2, m3, List.length_set]
  rw [hrx] at B
  refine FM.pbody (tb := tb) (fn := Try.f19) rfl rfl ?_
  simp only [argS, Nat.reduceAdd, List.length_cons, List.length_nil]
  simp only [rfM, ho] at B ⊢
  simp only [Bool.not_false, List.length_cons, List.length_nil, Nat.reduceAdd] at B ⊢
  cases hs1 : stB u with
  | false =>
    obtain ⟨r1, r2⟩ := hE1 hs1
    rw [hs1] at S1
    rw [r1, r2]
    simp only [rfM] at S1 ⊢
    refine jq ?_
    refine jg ?_
    refine jo ?_
    refine je ?_
    iterate 2 refine jq ?_
    refine jg ?_
    refine jo ?_
    refine jB false ?_
    iterate 4 refine jo ?_
    refine jP ?_
    refine jo ?_
    refine jDF ?_
    refine jo ?_
    refine je ?_
    refine WS.pcondF rfl rfl ?_
    refine WS.pskip rfl ?_
    iterate 2 refine jq ?_
    refine jg ?_
    iterate 2 refine jo ?_
    refine jP ?_
    refine jo ?_
    refine jB false ?_
    refine je ?_
    refine WS.pcondF rfl rfl ?_
    refine WS.pskip rfl ?_
    iterate 2 refine jq ?_
    refine jg ?_
    iterate 2 refine jo ?_
    refine jP ?_
    iterate 2 refine jo ?_
    refine jI ?_
    refine WS.po (tb := tb) rfl rfl rfl rfl (step_R rfl (evR_load rfl rfl rfl rfl (cellsB_get gb))) ?_
    refine je ?_
    refine WS.pcondF rfl rfl ?_
    refine WS.pskip rfl ?_
    refine jq ?_
    refine jg ?_
    iterate 2 refine jo ?_
    refine jP ?_
    refine jo ?_
    refine jW ?_
    refine jo ?_
    refine jP ?_
    refine js ?_
    refine je ?_
    refine jq ?_
    refine jg ?_
    refine jo ?_
    refine jc [0,1,2,3,4] B (by simp [jOb, rfM]) (by simp [jEb, jOb, jMb, mapL_cellsR, okL_cellsR, rfM]) ?_; rintro _ _ ⟨rfl, rfl⟩ -; simp only [jPg, jMb, ll, Nat.reduceAdd, Nat.reduceLT, Nat.zero_add, if_true, if_false, Nat.reduceSub, reduceIte, mapL_cellsR, Nat.lt_irrefl, Nat.not_lt_zero, Nat.zero_lt_succ, Nat.lt_add_one, rfM]
    refine jo ?_
    refine je ?_
    iterate 2 refine jq ?_
    refine jg ?_
    refine jo ?_
    refine jc [0,1,2,3,4] S1 (by simp [jOb, rfM]) (by simp [jEb, jOb, jMb, mapL_cellsR, okL_cellsR, rfM]) ?_; rintro _ _ ⟨rfl, rfl⟩ -; simp only [jPg, jMb, ll, Nat.reduceAdd, Nat.reduceLT, Nat.zero_add, if_true, if_false, Nat.reduceSub, reduceIte, mapL_cellsR, Nat.lt_irrefl, Nat.not_lt_zero, Nat.zero_lt_succ, Nat.lt_add_one, rfM]
    refine jB true ?_
    refine je ?_
    refine WS.pcondT rfl rfl ?_
    refine jq ?_
    refine jg ?_
    refine jo ?_
    refine je ?_
    refine WS.pret rfl ⟨.inr rfl, _, rfl, ?_⟩
    exact ⟨_, rfl, rfl, rfl⟩
  | true =>
    rw [hs1] at S1
    have hao : a.off = false := by rw [ha]; exact stS_on hs1
    have S2 := rstep_walk d (by rw [hd]; exact hao) (by rw [hd]; show a.cut ≤ _; rw [b5] at c8; omega)
    rw [← hg] at S2
    by_cases hff : x.fail = 0
    · obtain ⟨r1, r2⟩ := hE2 hs1 hff
      rw [decide_eq_true hff] at B
      rw [r1, r2]
      have q1 : (a.bk.set n ⟨0, true, true, y.wear + 1⟩).map Bk.bad = (d.bk.map Bk.bad).set n true := by rw [hd]; show _ = ((a.bk.set n _).map Bk.bad).set n true; rw [map_set_of Bk.bad hy1, map_set_of Bk.bad hy1, List.set_set]
      have q2 : (a.bk.set n ⟨0, true, true, y.wear + 1⟩).map Bk.torn = d.bk.map Bk.torn := by rw [hd]; show _ = ((a.bk.set n _).map Bk.torn); rw [map_set_of Bk.torn hy1, map_set_of Bk.torn hy1]
      have q3 : (a.bk.set n ⟨0, true, true, y.wear + 1⟩).map Bk.next = d.bk.map Bk.next := by rw [hd]; show _ = ((a.bk.set n _).map Bk.next); rw [map_set_of Bk.next hy1, map_set_of Bk.next hy1]
      have q4 : (a.bk.set n ⟨0, true, true, y.wear + 1⟩).length = d.bk.length := by rw [hd]; show _ = (a.bk.set n _).length; rw [List.length_set, List.length_set]
      have hst := cellsB_set (xs := d.bk.map Bk.bad) (x := true) (i := n) (by rw [List.length_map, hdlen]; exact hb)
      simp only [rfM, q1, q2, q3, q4] at S1 F1 ⊢
      refine jq ?_
      refine jg ?_
      refine jo ?_
      refine je ?_
      iterate 2 refine jq ?_
      refine jg ?_
      refine jo ?_
      refine jB false ?_
      iterate 4 refine jo ?_
      refine jP ?_
      refine jo ?_
      refine jDF ?_
      refine jo ?_
      refine je ?_
      refine WS.pcondF rfl rfl ?_
      refine WS.pskip rfl ?_
      iterate 2 refine jq ?_
      refine jg ?_
      iterate 2 refine jo ?_
      refine jP ?_
      refine jo ?_
      refine jB false ?_
      refine je ?_
      refine WS.pcondF rfl rfl ?_
      refine WS.pskip rfl ?_
      iterate 2 refine jq ?_
      refine jg ?_
      iterate 2 refine jo ?_
      refine jP ?_
      iterate 2 refine jo ?_
      refine jI ?_
      refine WS.po (tb := tb) rfl rfl rfl rfl (step_R rfl (evR_load rfl rfl rfl rfl (cellsB_get gb))) ?_
      refine je ?_
      refine WS.pcondF rfl rfl ?_
      refine WS.pskip rfl ?_
      refine jq ?_
      refine jg ?_
      iterate 2 refine jo ?_
      refine jP ?_
      refine jo ?_
      refine jW ?_
      refine jo ?_
      refine jP ?_
      refine js ?_
      refine je ?_
      refine jq ?_
      refine jg ?_
      refine jo ?_
      refine jc [0,1,2,3,4] B (by simp [jOb, rfM, hdlen]) (by simp [jEb, jOb, jMb, mapL_cellsR, okL_cellsR, rfM, hdlen]) ?_; rintro _ _ ⟨rfl, rfl⟩ -; simp only [jPg, jMb, ll, Nat.reduceAdd, Nat.reduceLT, Nat.zero_add, if_true, if_false, Nat.reduceSub, reduceIte, mapL_cellsR, Nat.lt_irrefl, Nat.not_lt_zero, Nat.zero_lt_succ, Nat.lt_add_one, rfM, hdlen]
      refine jo ?_
      refine je ?_
      iterate 2 refine jq ?_
      refine jg ?_
      refine jo ?_
      refine jc [0,1,2,3,4] S1 (by simp [jOb, rfM, hdlen]) (by simp [jEb, jOb, jMb, mapL_cellsR, okL_cellsR, rfM, hdlen]) ?_; rintro _ _ ⟨rfl, rfl⟩ -; simp only [jPg, jMb, ll, Nat.reduceAdd, Nat.reduceLT, Nat.zero_add, if_true, if_false, Nat.reduceSub, reduceIte, mapL_cellsR, Nat.lt_irrefl, Nat.not_lt_zero, Nat.zero_lt_succ, Nat.lt_add_one, rfM, hdlen]
      refine jB false ?_
      refine je ?_
      refine WS.pcondF rfl rfl ?_
      refine WS.pskip rfl ?_
      refine jq ?_
      refine jg ?_
      iterate 2 refine jo ?_
      refine jc [0,1,2,3,4] F1 (by simp [jOb, rfM, hdlen]) (by simp [jEb, jOb, jMb, mapL_cellsR, okL_cellsR, rfM, hdlen]) ?_; rintro _ _ ⟨rfl, rfl⟩ -; simp only [jPg, jMb, ll, Nat.reduceAdd, Nat.reduceLT, Nat.zero_add, if_true, if_false, Nat.reduceSub, reduceIte, mapL_cellsR, Nat.lt_irrefl, Nat.not_lt_zero, Nat.zero_lt_succ, Nat.lt_add_one, rfM, hdlen]
      refine je ?_
      iterate 2 refine jq ?_
      refine jg ?_
      refine jo ?_
      refine je ?_
      refine WS.pcondT rfl rfl ?_
      refine jq ?_
      refine jg ?_
      iterate 2 refine jo ?_
      refine jP ?_
      iterate 2 refine jo ?_
      refine jI ?_
      refine WS.po0 (tb := tb) rfl rfl rfl rfl (step_H rfl rfl (evH_store rfl rfl rfl rfl rfl (Nat.zero_le _) rfl (by simp [vcells]) (by simp only [Bk_len, vcells, List.length_cons, List.length_nil, cellsI_len, cellsB_len, List.length_set, List.length_replicate, List.length_append, List.length_map, List.length_take, List.length_drop]; omega))) ?_; rw [upd_mem _ rfl]; simp only [vcells, List.set_cons_zero, List.set_cons_succ, hst, rfM, hdlen]; (try simp only [setL, List.set_cons_zero, List.set_cons_succ])
      refine je ?_
      refine jq ?_
      refine jg ?_
      refine jo ?_
      refine je ?_
      refine WS.pret rfl ⟨.inr rfl, _, rfl, ?_⟩
      exact ⟨_, rfl, rfl, rfl⟩
    · rw [decide_eq_false hff] at B
      cases hs2 : stB d with
      | false =>
        obtain ⟨r1, r2⟩ := hE3 hs1 hff hs2
        rw [hs2] at S2
        rw [r1, r2]
        simp only [rfM] at S1 F1 S2 ⊢
        refine jq ?_
        refine jg ?_
        refine jo ?_
        refine je ?_
        iterate 2 refine jq ?_
        refine jg ?_
        refine jo ?_
        refine jB false ?_
        iterate 4 refine jo ?_
        refine jP ?_
        refine jo ?_
        refine jDF ?_
        refine jo ?_
        refine je ?_
        refine WS.pcondF rfl rfl ?_
        refine WS.pskip rfl ?_
        iterate 2 refine jq ?_
        refine jg ?_
        iterate 2 refine jo ?_
        refine jP ?_
        refine jo ?_
        refine jB false ?_
        refine je ?_
        refine WS.pcondF rfl rfl ?_
        refine WS.pskip rfl ?_
        iterate 2 refine jq ?_
        refine jg ?_
        iterate 2 refine jo ?_
        refine jP ?_
        iterate 2 refine jo ?_
        refine jI ?_
        refine WS.po (tb := tb) rfl rfl rfl rfl (step_R rfl (evR_load rfl rfl rfl rfl (cellsB_get gb))) ?_
        refine je ?_
        refine WS.pcondF rfl rfl ?_
        refine WS.pskip rfl ?_
        refine jq ?_
        refine jg ?_
        iterate 2 refine jo ?_
        refine jP ?_
        refine jo ?_
        refine jW ?_
        refine jo ?_
        refine jP ?_
        refine js ?_
        refine je ?_
        refine jq ?_
        refine jg ?_
        refine jo ?_
        refine jc [0,1,2,3,4] B (by simp [jOb, rfM]) (by simp [jEb, jOb, jMb, mapL_cellsR, okL_cellsR, rfM]) ?_; rintro _ _ ⟨rfl, rfl⟩ -; simp only [jPg, jMb, ll, Nat.reduceAdd, Nat.reduceLT, Nat.zero_add, if_true, if_false, Nat.reduceSub, reduceIte, mapL_cellsR, Nat.lt_irrefl, Nat.not_lt_zero, Nat.zero_lt_succ, Nat.lt_add_one, rfM]
        refine jo ?_
        refine je ?_
        iterate 2 refine jq ?_
        refine jg ?_
        refine jo ?_
        refine jc [0,1,2,3,4] S1 (by simp [jOb, rfM]) (by simp [jEb, jOb, jMb, mapL_cellsR, okL_cellsR, rfM]) ?_; rintro _ _ ⟨rfl, rfl⟩ -; simp only [jPg, jMb, ll, Nat.reduceAdd, Nat.reduceLT, Nat.zero_add, if_true, if_false, Nat.reduceSub, reduceIte, mapL_cellsR, Nat.lt_irrefl, Nat.not_lt_zero, Nat.zero_lt_succ, Nat.lt_add_one, rfM]
        refine jB false ?_
        refine je ?_
        refine WS.pcondF rfl rfl ?_
        refine WS.pskip rfl ?_
        refine jq ?_
        refine jg ?_
        iterate 2 refine jo ?_
        refine jc [0,1,2,3,4] F1 (by simp [jOb, rfM]) (by simp [jEb, jOb, jMb, mapL_cellsR, okL_cellsR, rfM]) ?_; rintro _ _ ⟨rfl, rfl⟩ -; simp only [jPg, jMb, ll, Nat.reduceAdd, Nat.reduceLT, Nat.zero_add, if_true, if_false, Nat.reduceSub, reduceIte, mapL_cellsR, Nat.lt_irrefl, Nat.not_lt_zero, Nat.zero_lt_succ, Nat.lt_add_one, rfM]
        refine je ?_
        iterate 2 refine jq ?_
        refine jg ?_
        refine jo ?_
        refine je ?_
        refine WS.pcondF rfl rfl ?_
        refine WS.pskip rfl ?_
        iterate 2 refine jq ?_
        refine jg ?_
        refine jo ?_
        refine jc [0,1,2,3,4] S2 (by simp [jOb, rfM]) (by simp [jEb, jOb, jMb, mapL_cellsR, okL_cellsR, rfM]) ?_; rintro _ _ ⟨rfl, rfl⟩ -; simp only [jPg, jMb, ll, Nat.reduceAdd, Nat.reduceLT, Nat.zero_add, if_true, if_false, Nat.reduceSub, reduceIte, mapL_cellsR, Nat.lt_irrefl, Nat.not_lt_zero, Nat.zero_lt_succ, Nat.lt_add_one, rfM]
        refine jB true ?_
        refine je ?_
        refine WS.pcondT rfl rfl ?_
        refine jq ?_
        refine jg ?_
        refine jo ?_
        refine je ?_
        refine WS.pret rfl ⟨.inr rfl, _, rfl, ?_⟩
        exact ⟨_, rfl, rfl, rfl⟩
      | true =>
        obtain ⟨r1, r2⟩ := hE4 hs1 hff hs2
        rw [hs2] at S2
        rw [r1, r2]
        obtain ⟨g1, g2, g3, g4, g5, g6, g7, g8, g9⟩ := stS_keep d
        rw [← hg] at g1 g2 g3 g4 g5 g6 g7 g8 g9
        have F2 := rfill_walk g n o1 ⟨0, y.bad, true, y.wear + 1⟩ 255 (.inr rfl) (by rw [g3]; exact hy3) (by rw [g3, hdlen]; exact hm) (by rw [g1, hdp]; exact h1) (by rw [g1, hdp]; exact h2) (by rw [g1, hdp, g2, hdbs]; exact h3) (by rw [g2, hdbs]; exact hbs)
        rw [g1, hdp, show decide ((255 : Int) = 0) = false by decide] at F2
        simp only [rfM] at S1 F1 S2 F2 ⊢
        refine jq ?_
        refine jg ?_
        refine jo ?_
        refine je ?_
        iterate 2 refine jq ?_
        refine jg ?_
        refine jo ?_
        refine jB false ?_
        iterate 4 refine jo ?_
        refine jP ?_
        refine jo ?_
        refine jDF ?_
        refine jo ?_
        refine je ?_
        refine WS.pcondF rfl rfl ?_
        refine WS.pskip rfl ?_
        iterate 2 refine jq ?_
        refine jg ?_
        iterate 2 refine jo ?_
        refine jP ?_
        refine jo ?_
        refine jB false ?_
        refine je ?_
        refine WS.pcondF rfl rfl ?_
        refine WS.pskip rfl ?_
        iterate 2 refine jq ?_
        refine jg ?_
        iterate 2 refine jo ?_
        refine jP ?_
        iterate 2 refine jo ?_
        refine jI ?_
        refine WS.po (tb := tb) rfl rfl rfl rfl (step_R rfl (evR_load rfl rfl rfl rfl (cellsB_get gb))) ?_
        refine je ?_
        refine WS.pcondF rfl rfl ?_
        refine WS.pskip rfl ?_
        refine jq ?_
        refine jg ?_
        iterate 2 refine jo ?_
        refine jP ?_
        refine jo ?_
        refine jW ?_
        refine jo ?_
        refine jP ?_
        refine js ?_
        refine je ?_
        refine jq ?_
        refine jg ?_
        refine jo ?_
        refine jc [0,1,2,3,4] B (by simp [jOb, rfM]) (by simp [jEb, jOb, jMb, mapL_cellsR, okL_cellsR, rfM]) ?_; rintro _ _ ⟨rfl, rfl⟩ -; simp only [jPg, jMb, ll, Nat.reduceAdd, Nat.reduceLT, Nat.zero_add, if_true, if_false, Nat.reduceSub, reduceIte, mapL_cellsR, Nat.lt_irrefl, Nat.not_lt_zero, Nat.zero_lt_succ, Nat.lt_add_one, rfM]
        refine jo ?_
        refine je ?_
        iterate 2 refine jq ?_
        refine jg ?_
        refine jo ?_
        refine jc [0,1,2,3,4] S1 (by simp [jOb, rfM]) (by simp [jEb, jOb, jMb, mapL_cellsR, okL_cellsR, rfM]) ?_; rintro _ _ ⟨rfl, rfl⟩ -; simp only [jPg, jMb, ll, Nat.reduceAdd, Nat.reduceLT, Nat.zero_add, if_true, if_false, Nat.reduceSub, reduceIte, mapL_cellsR, Nat.lt_irrefl, Nat.not_lt_zero, Nat.zero_lt_succ, Nat.lt_add_one, rfM]
        refine jB false ?_
        refine je ?_
        refine WS.pcondF rfl rfl ?_
        refine WS.pskip rfl ?_
        refine jq ?_
        refine jg ?_
        iterate 2 refine jo ?_
        refine jc [0,1,2,3,4] F1 (by simp [jOb, rfM]) (by simp [jEb, jOb, jMb, mapL_cellsR, okL_cellsR, rfM]) ?_; rintro _ _ ⟨rfl, rfl⟩ -; simp only [jPg, jMb, ll, Nat.reduceAdd, Nat.reduceLT, Nat.zero_add, if_true, if_false, Nat.reduceSub, reduceIte, mapL_cellsR, Nat.lt_irrefl, Nat.not_lt_zero, Nat.zero_lt_succ, Nat.lt_add_one, rfM]
        refine je ?_
        iterate 2 refine jq ?_
        refine jg ?_
        refine jo ?_
        refine je ?_
        refine WS.pcondF rfl rfl ?_
        refine WS.pskip rfl ?_
        iterate 2 refine jq ?_
        refine jg ?_
        refine jo ?_
        refine jc [0,1,2,3,4] S2 (by simp [jOb, rfM]) (by simp [jEb, jOb, jMb, mapL_cellsR, okL_cellsR, rfM]) ?_; rintro _ _ ⟨rfl, rfl⟩ -; simp only [jPg, jMb, ll, Nat.reduceAdd, Nat.reduceLT, Nat.zero_add, if_true, if_false, Nat.reduceSub, reduceIte, mapL_cellsR, Nat.lt_irrefl, Nat.not_lt_zero, Nat.zero_lt_succ, Nat.lt_add_one, rfM]
        refine jB false ?_
        refine je ?_
        refine WS.pcondF rfl rfl ?_
        refine WS.pskip rfl ?_
        refine jq ?_
        refine jg ?_
        iterate 2 refine jo ?_
        refine jc [0,1,2,3,4] F2 (by simp [jOb, rfM]) (by simp [jEb, jOb, jMb, mapL_cellsR, okL_cellsR, rfM]) ?_; rintro _ _ ⟨rfl, rfl⟩ -; simp only [jPg, jMb, ll, Nat.reduceAdd, Nat.reduceLT, Nat.zero_add, if_true, if_false, Nat.reduceSub, reduceIte, mapL_cellsR, Nat.lt_irrefl, Nat.not_lt_zero, Nat.zero_lt_succ, Nat.lt_add_one, rfM]
        refine je ?_
        refine jq ?_
        refine jg ?_
        refine jo ?_
        refine je ?_
        refine WS.pret rfl ⟨.inr rfl, _, rfl, ?_⟩
        exact ⟨_, rfl, rfl, rfl⟩
end Go.Proofs.Ytmkolibmadbenaa.Am

