/- Functions of the flash, walked. Conditions: those of each theorem. -/
import Derived.Test.YtmkolibmadbenaaNd2
namespace Go.Proofs.Ytmkolibmadbenaa.Am
open Go.Proofs
set_option maxRecDepth 1000000
set_option maxHeartbeats 4000000
set_option linter.unusedSimpArgs false
set_option linter.unusedVariables false
def prM (x : NS) : Nat := if x.fail = 0 then 4 else 17
def prX (x : NS) : NS := bgS { x with pr := x.pr + 1 }
/-- What a page that is programmed answers, and leaves. -/
def prE (x : NS) : Int := if 0 ≤ x.cut ∧ x.cut < prM x then 7 else if x.fail = 0 then 6 else 0
def prS (x : NS) (page b r : Nat) (D : List Int) (y : Bk) : NS :=
  if 0 ≤ x.cut ∧ x.cut < prM x then { prK (prX x) page b r D y x.cut.toNat with off := true }
  else if x.fail = 0 then { prK (prX x) page b r D y 4 with bk := x.bk.set b { y with next := (r : Int) + 1, bad := true } }
  else prK (prX x) page b r D y 17
theorem prX_off (x : NS) : (prX x).off = x.off := by unfold prX bgS; split <;> rfl
theorem prX_cut (x : NS) : (prX x).cut = x.cut := by unfold prX bgS; split <;> rfl
theorem prX_p (x : NS) : (prX x).p = x.p := by unfold prX bgS; split <;> rfl
theorem prX_bs (x : NS) : (prX x).bs = x.bs := by unfold prX bgS; split <;> rfl
theorem prX_bk (x : NS) : (prX x).bk = x.bk := by unfold prX bgS; split <;> rfl
theorem stB_K {x : NS} {page b r k : Nat} {D : List Int} {y : Bk} (ho : x.off = false) (hc : ¬ x.cut = k) (hk : x.cut < 0 ∨ (k : Int) ≤ x.cut) : stB (prK x page b r D y k) = true ∧ stS (prK x page b r D y k) = { prK x page b r D y k with cut := cutK x.cut (k + 1) } := by
  have h1 : ¬ cutK x.cut k = 0 := by unfold cutK; split <;> omega
  have h0 : (prK x page b r D y k).off = false := ho
  have h2 : (prK x page b r D y k).cut = cutK x.cut k := rfl
  refine ⟨by simp [stB, h0, h2, h1], ?_⟩
  unfold stS
  rw [h0, h2, if_neg (by simp), if_neg h1]
  by_cases h3 : x.cut < 0
  · have e : cutK x.cut (k + 1) = cutK x.cut k := by simp [cutK, h3]
    rw [if_neg (by unfold cutK; rw [if_pos h3]; omega), e]
    rfl
  · have e : cutK x.cut (k + 1) = cutK x.cut k - 1 := by simp only [cutK, if_neg h3]; omega
    rw [if_pos (by unfold cutK; rw [if_neg h3]; omega), e, ← h0]
theorem stB_Z {x : NS} {page b r k : Nat} {D : List Int} {y : Bk} (ho : x.off = false) (hc : x.cut = k) : stB (prK x page b r D y k) = false ∧ stS (prK x page b r D y k) = { prK x page b r D y k with off := true } := by
  have h1 : cutK x.cut k = 0 := by unfold cutK; split <;> omega
  have h0 : (prK x page b r D y k).off = false := ho
  have h2 : (prK x page b r D y k).cut = cutK x.cut k := rfl
  refine ⟨by simp [stB, h0, h2, h1], ?_⟩
  unfold stS
  rw [h0, h2, if_neg (by simp), if_pos h1]
  simp only [h2, h1]
theorem prK_0 (x : NS) (page b r : Nat) (D : List Int) (y : Bk) : prK x page b r D y 0 = x := by
  obtain ⟨p, bs, bk, off, cut, fail, rd, pr, er⟩ := x
  simp only [prK, bsK, bkK, cutK, Nat.zero_mul, List.take_zero, over2_nil, if_true]
  congr 1
  split <;> omega
theorem program_go (x : NS) (D : List Int) (page c np b r : Nat) (q : Bool) (y : Bk) (hp : (x.bk.length : Int) * x.p = (np : Int)) (hnp : np ≤ 10000) (h : page < np) (hy : x.bk[b]? = some y) (hq : (page : Int).tdiv x.p = (b : Int)) (hr : (page : Int).tmod x.p = (r : Int)) (hp0 : 0 < x.p) (hrp : r < x.p) (hpm : x.p ≤ 1000) (hbk : x.bk.length ≤ 1000)
    (ho : x.off = false) (hyb : y.bad = false) (hyt : y.torn = false) (hyn : y.next = r) (hbs : x.bs.length = np * 68) (hD : 68 ≤ D.length) (hc68 : 68 ≤ c) (hc : x.cut ≤ 9223372036854775807) (hc1 : -1 ≤ x.cut) (hf : x.fail ≤ 9223372036854775807) (hf1 : -1 ≤ x.fail) (hpr : x.pr ≤ 1000000) (hpr0 : 0 ≤ x.pr) :
    FM Try.prog 10 [.p (some (2,0)), .i .i64 page, .sl (some (3,0)) 68 c q] (ndM x ++ dtB D) (fun v M' => v = .i .i64 (prE x) ∧ M' = ndM (prS x page b r D y) ++ dtB D) := by
  have hb := (List.getElem?_eq_some_iff.1 hy).1
  have hpl : page * 68 + 68 ≤ x.bs.length := by rw [hbs]; omega
  have l0 : (cellsR rwBk x.bk)[b * 4]? = some (.i .i64 (r : Int)) := by rw [← hyn]; exact cellsR_get0 (R := rwBk) hy rfl
  have l1 : (cellsR rwBk x.bk)[b * 4 + 1]? = some (.b false) := by rw [← hyb]; exact cellsR_get (R := rwBk) hy rfl
  have l2 : (cellsR rwBk x.bk)[b * 4 + 2]? = some (.b false) := by rw [← hyt]; exact cellsR_get (R := rwBk) hy rfl
  have B := begin_walk { x with pr := x.pr + 1 } hf
  obtain ⟨u, hu⟩ : ∃ u, u = prX x := ⟨_, rfl⟩
  have A := at_walk u page (by rw [hu, prX_bs]; omega) (by rw [hu, prX_bs]; omega)
  have u1 : u.p = x.p := by rw [hu, prX_p]
  have u2 : u.bs = x.bs := by rw [hu, prX_bs]
  have u3 : u.bk = x.bk := by rw [hu, prX_bk]
  have u4 : u.off = false := by rw [hu, prX_off, ho]
  have u5 : u.cut = x.cut := by rw [hu, prX_cut]
  have hB2 : bgS { x with pr := x.pr + 1 } = u := by rw [hu]; rfl
  rw [hB2] at B
  have hmm : prM x = 4 ∨ prM x = 17 := by unfold prM; split <;> simp
  obtain ⟨m, hm⟩ : ∃ m, m = prM x := ⟨_, rfl⟩
  rw [← hm] at hmm
  refine FM.pbody (tb := tb) (fn := Try.f10) rfl rfl ?_
  simp only [argS, Nat.reduceAdd, ndM, dtB, List.length_cons, List.length_nil, List.cons_append, List.nil_append]
  have key : ∀ fl : Bool, (x.fail = 0 ↔ fl = true) → WS Try.prog (frameN Try.f10 3) 4 [.c (k1 (k2 (k1 (k2 (k2 (k2 (k2 (k2 (k2 (k2 (k2 (k2 (kb Try.f10))))))))))))), .b (kid (k2 (k1 (k2 (k2 (k2 (k2 (k2 (k2 (k2 (k2 (k2 (kb Try.f10))))))))))))), .c (k2 (k2 (k2 (k2 (k2 (k2 (k2 (k2 (k2 (k2 (kb Try.f10)))))))))))]
      (slt [(0, .p (some (2,0))), (1, .i .i64 page), (2, .sl (some (3,0)) 68 c q), (7, .p (some (1, b * 4))), (8, .b fl), (10, .sl (some (0, page * 68)) 68 (x.bs.length - page * 68) false), (87, .i .i64 m), (88, .i .i64 0)]) (mem 0 (ndM u ++ dtB D))
      (fun x1 t' h' => (x1 = .n ∨ x1 = .r) ∧ ∃ v, resV tb t' h' (Try.f10).results.toList = some v ∧ ∃ M', h' = mem 0 M' ∧ v = .i .i64 (prE x) ∧ M' = ndM (prS x page b r D y) ++ dtB D) := by
    intro fl hfl
    simp only [ndM, dtB, List.cons_append, List.nil_append]
    refine WS.ploopI (σ := Nat) (τ := Unit) (fun i => [(0, .p (some (2,0))), (1, .i .i64 page), (2, .sl (some (3,0)) 68 c q), (7, .p (some (1, b * 4))), (8, .b fl), (10, .sl (some (0, page * 68)) 68 (x.bs.length - page * 68) false), (87, .i .i64 m), (88, .i .i64 i)])
      (fun i => ndM (prK u page b r D y i) ++ dtB D) (fun i => i ≤ m ∧ (x.cut < 0 ∨ (i : Int) ≤ x.cut)) (fun i => m - i)
      (fun _ => [(0, .p (some (2,0))), (7, .p (some (1, b * 4))), (8, .b fl)]) (fun _ => ndM (prK u page b r D y m) ++ dtB D) (fun _ => ¬ (0 ≤ x.cut ∧ x.cut < m)) 1 [0,1,2,3] 0 rfl ⟨Nat.zero_le _, by omega⟩ (jSb (by simp [jVb, jOb, jMb, mapL_cellsR, okL_cellsR, prK_0, ndM, dtB]) (by simp only [jSl, jOb, jMb, Nat.reduceAdd, Nat.reduceLT, prK_0, ndM, dtB] <;> exact jClo)) rfl ?_ ?_
    · rintro i ⟨hi, hci⟩
      have hl1 : (bsK x.bs D page i).length = x.bs.length := bsK_len hpl (by omega)
      have hl2 : (bkK x.bk b y r i).length = x.bk.length := bkK_len _ _ _ _ _
      by_cases hlt : i < m
      · have S := step_walk (prK u page b r D y i) (by show cutK u.cut i ≤ _; rw [u5]; unfold cutK; split <;> omega)
        by_cases hz : x.cut = i
        · obtain ⟨e1, e2⟩ := stB_Z (page := page) (b := b) (r := r) (D := D) (y := y) u4 (u5.trans hz)
          rw [e1, e2] at S
          have hres : prE x = 7 := by unfold prE; rw [if_pos ⟨by omega, by rw [← hm]; omega⟩]
          have hres2 : prS x page b r D y = { prK u page b r D y i with off := true } := by
            unfold prS
            rw [if_pos ⟨by omega, by rw [← hm]; omega⟩, ← hu, hz, Int.toNat_natCast]
          simp only [ndM, dtB, List.cons_append, List.nil_append]
          refine jq ?_
          refine jg ?_
          refine jDT ?_
          refine je ?_
          refine jq ?_
          refine WS.pcondT rfl rfl ?_
          refine WS.pskip rfl ?_
          refine jq ?_
          refine WS.pblock rfl ?_
          refine jq ?_
          refine jg ?_
          iterate 2 refine jo ?_
          refine je ?_
          iterate 2 refine jq ?_
          refine jg ?_
          refine jo ?_
          refine jc [0,1,2] S (by simp [jOb, ndM]) (by simp [jEb, jOb, jMb, mapL_cellsR, okL_cellsR, ndM]) ?_; rintro _ _ ⟨rfl, rfl⟩ -; simp only [jPg, jMb, ll, Nat.reduceAdd, Nat.reduceLT, Nat.zero_add, if_true, if_false, Nat.reduceSub, reduceIte, mapL_cellsR, Nat.lt_irrefl, Nat.not_lt_zero, Nat.zero_lt_succ, Nat.lt_add_one, ndM]
          refine jB true ?_
          refine je ?_
          refine WS.pcondT rfl rfl ?_
          refine jq ?_
          refine jg ?_
          refine jo ?_
          refine je ?_
          refine WS.pret rfl ?_
          exact ⟨by simp, _, rfl, _, rfl, by rw [hres], by rw [hres2]⟩
        · obtain ⟨e1, e2⟩ := stB_K (page := page) (b := b) (r := r) (D := D) (y := y) u4 (fun e => hz (u5.symm.trans e)) (by rw [u5]; exact hci)
          rw [e1, e2] at S
          have hl3 : (bsK x.bs D page (i + 1)).length = x.bs.length := bsK_len hpl (by omega)
          have hl4 : (bkK x.bk b y r (i + 1)).length = x.bk.length := bkK_len _ _ _ _ _
          have hz4 : (i + 1) * 4 - i * 4 = 4 := by omega
          have hst1 := bkK_set hy r i
          have hst2 := bsK_put (D := D) hpl (show i < 17 by omega) hD
          simp only [prK, u1, u2, u3, u4, u5, ndM, dtB, List.cons_append, List.nil_append, hl1, hl2] at S ⊢
          cases q with
          | true =>
            refine jq ?_
            refine jg ?_
            refine jDT ?_
            refine je ?_
            refine jq ?_
            refine WS.pcondT rfl rfl ?_
            refine WS.pskip rfl ?_
            refine jq ?_
            refine WS.pblock rfl ?_
            refine jq ?_
            refine jg ?_
            iterate 2 refine jo ?_
            refine je ?_
            iterate 2 refine jq ?_
            refine jg ?_
            refine jo ?_
            refine jc [0,1,2] S (by simp [jOb]) (by simp [jEb, jOb, jMb, mapL_cellsR, okL_cellsR]) ?_; rintro _ _ ⟨rfl, rfl⟩ -; simp only [jPg, jMb, ll, Nat.reduceAdd, Nat.reduceLT, Nat.zero_add, if_true, if_false, Nat.reduceSub, reduceIte, mapL_cellsR, Nat.lt_irrefl, Nat.not_lt_zero, Nat.zero_lt_succ, Nat.lt_add_one]
            refine jB false ?_
            refine je ?_
            refine WS.pcondF rfl rfl ?_
            refine WS.pskip rfl ?_
            refine jq ?_
            refine jg ?_
            iterate 4 refine jo ?_
            refine jP ?_
            refine jo ?_
            refine WS.po (tb := tb) rfl rfl rfl rfl (step_P (evP_remV rfl rfl rfl (by assumption) (by omega))) ?_
            refine jW ?_
            refine jo ?_
            refine jP ?_
            refine WS.po0 (tb := tb) rfl rfl rfl rfl (step_H rfl rfl (evH_store rfl rfl rfl rfl rfl (Nat.zero_le _) rfl (by simp [vcells]) (by simp only [Bk_len, vcells, List.length_cons, List.length_nil, cellsI_len, cellsB_len, List.length_set, List.length_replicate, List.length_append, List.length_map, List.length_take, List.length_drop]; omega))) ?_; rw [upd_mem _ rfl]; simp only [vcells, List.set_cons_zero, List.set_cons_succ, hst1, hst2]; (try simp only [setL, List.set_cons_zero, List.set_cons_succ])
            refine je ?_
            refine WS.pdraw (tb := tb) (by kernel_rfl) rfl (by kernel_rfl) (by kernel_rfl) ?_
            iterate 2 refine jp ?_
            refine jw ?_
            refine jp ?_
            iterate 2 refine jw ?_
            refine WD.pV (tb := tb) rfl rfl rfl rfl (evP_sliceC (a := (i*4)) (b := ((i+1)*4)) rfl rfl rfl rfl rfl rfl (by first | exact .inl ⟨rfl, rfl⟩ | exact .inr ⟨_, _, rfl, rfl⟩ | exact .inr ⟨_, _, rfl, by first | assumption | omega⟩ | exact .inr ⟨_, _, rfl, (Int.toNat_of_nonneg (by omega)).symm⟩) (by first | exact .inl ⟨rfl, rfl⟩ | exact .inr ⟨_, _, rfl, rfl⟩ | exact .inr ⟨_, _, rfl, by first | assumption | omega⟩ | exact .inr ⟨_, _, rfl, (Int.toNat_of_nonneg (by omega)).symm⟩) (by omega) (by omega) (by omega)) (by simp only [hz4, Nat.mul_one, Nat.zero_add]; exact rfl) ?_
            iterate 2 refine jp ?_
            refine jw ?_
            refine WD.pV (tb := tb) rfl rfl rfl rfl (evP_sliceO (a := (i*4)) rfl rfl rfl rfl rfl rfl (by first | exact .inl ⟨rfl, rfl⟩ | exact .inr ⟨_, _, rfl, rfl⟩ | exact .inr ⟨_, _, rfl, by first | assumption | omega⟩ | exact .inr ⟨_, _, rfl, (Int.toNat_of_nonneg (by omega)).symm⟩) (by first | exact .inl ⟨rfl, rfl⟩ | exact .inr ⟨_, _, rfl, rfl⟩ | exact .inr ⟨_, _, rfl, by first | assumption | omega⟩ | exact .inr ⟨_, _, rfl, (Int.toNat_of_nonneg (by omega)).symm⟩) (by omega) (by omega) (by omega)) (by simp only [hz4, Nat.mul_one, Nat.zero_add]; exact rfl) ?_
            refine WD.e (tb := tb) rfl rfl rfl rfl rfl (evE_H (evH_copyR rfl rfl rfl rfl rfl (by first | exact Nat.min_eq_left (by omega) | exact Nat.min_eq_right (by omega)) (by omega) (by omega) (cellsAt_rows (R := rwI .u8) (k := i * 4) rfl rfl (by simp only [Nat.mul_one]) (by omega)) rfl (Nat.zero_le _) (by first | rfl | exact allI _ _) (by first | exact rfl | (simp only [Bk_len, vcells, List.length_cons, List.length_nil, cellsI_len, cellsB_len, List.length_set, List.length_replicate, List.length_append, List.length_map, List.length_take, List.length_drop]; omega) | omega) (by first | exact rfl | (simp only [Bk_len, vcells, List.length_cons, List.length_nil, cellsI_len, cellsB_len, List.length_set, List.length_replicate, List.length_append, List.length_map, List.length_take, List.length_drop]; omega) | omega))) ?_; rw [upd_mem _ rfl]; simp only [vcells, List.set_cons_zero, List.set_cons_succ, hst1, hst2]; (try simp only [setL, List.set_cons_zero, List.set_cons_succ])
            refine WD.fin rfl ?_
            refine jg ?_
            refine jW ?_
            refine jo ?_
            refine je ?_
            refine WS.nil ?_
            exact ⟨i + 1, ⟨by omega, by omega⟩, by omega, (jSn [0,1,2,3] (by simp [jVb, jOb, jMb, mapL_cellsR, okL_cellsR, hl3, hl4]) (by simp only [jSl, jOb, jMb, Nat.reduceAdd, Nat.reduceLT, hl3, hl4] <;> exact jClo))⟩
          | false =>
            refine jq ?_
            refine jg ?_
            refine jDT ?_
            refine je ?_
            refine jq ?_
            refine WS.pcondT rfl rfl ?_
            refine WS.pskip rfl ?_
            refine jq ?_
            refine WS.pblock rfl ?_
            refine jq ?_
            refine jg ?_
            iterate 2 refine jo ?_
            refine je ?_
            iterate 2 refine jq ?_
            refine jg ?_
            refine jo ?_
            refine jc [0,1,2] S (by simp [jOb]) (by simp [jEb, jOb, jMb, mapL_cellsR, okL_cellsR]) ?_; rintro _ _ ⟨rfl, rfl⟩ -; simp only [jPg, jMb, ll, Nat.reduceAdd, Nat.reduceLT, Nat.zero_add, if_true, if_false, Nat.reduceSub, reduceIte, mapL_cellsR, Nat.lt_irrefl, Nat.not_lt_zero, Nat.zero_lt_succ, Nat.lt_add_one]
            refine jB false ?_
            refine je ?_
            refine WS.pcondF rfl rfl ?_
            refine WS.pskip rfl ?_
            refine jq ?_
            refine jg ?_
            iterate 4 refine jo ?_
            refine jP ?_
            refine jo ?_
            refine WS.po (tb := tb) rfl rfl rfl rfl (step_P (evP_remV rfl rfl rfl (by assumption) (by omega))) ?_
            refine jW ?_
            refine jo ?_
            refine jP ?_
            refine WS.po0 (tb := tb) rfl rfl rfl rfl (step_H rfl rfl (evH_store rfl rfl rfl rfl rfl (Nat.zero_le _) rfl (by simp [vcells]) (by simp only [Bk_len, vcells, List.length_cons, List.length_nil, cellsI_len, cellsB_len, List.length_set, List.length_replicate, List.length_append, List.length_map, List.length_take, List.length_drop]; omega))) ?_; rw [upd_mem _ rfl]; simp only [vcells, List.set_cons_zero, List.set_cons_succ, hst1, hst2]; (try simp only [setL, List.set_cons_zero, List.set_cons_succ])
            refine je ?_
            refine WS.pdraw (tb := tb) (by kernel_rfl) rfl (by kernel_rfl) (by kernel_rfl) ?_
            iterate 2 refine jp ?_
            refine jw ?_
            refine jp ?_
            iterate 2 refine jw ?_
            refine WD.pV (tb := tb) rfl rfl rfl rfl (evP_sliceC (a := (i*4)) (b := ((i+1)*4)) rfl rfl rfl rfl rfl rfl (by first | exact .inl ⟨rfl, rfl⟩ | exact .inr ⟨_, _, rfl, rfl⟩ | exact .inr ⟨_, _, rfl, by first | assumption | omega⟩ | exact .inr ⟨_, _, rfl, (Int.toNat_of_nonneg (by omega)).symm⟩) (by first | exact .inl ⟨rfl, rfl⟩ | exact .inr ⟨_, _, rfl, rfl⟩ | exact .inr ⟨_, _, rfl, by first | assumption | omega⟩ | exact .inr ⟨_, _, rfl, (Int.toNat_of_nonneg (by omega)).symm⟩) (by omega) (by omega) (by omega)) (by simp only [hz4, Nat.mul_one, Nat.zero_add]; exact rfl) ?_
            iterate 2 refine jp ?_
            refine jw ?_
            refine WD.pV (tb := tb) rfl rfl rfl rfl (evP_sliceC (a := (i*4)) rfl rfl rfl rfl rfl rfl (by first | exact .inl ⟨rfl, rfl⟩ | exact .inr ⟨_, _, rfl, rfl⟩ | exact .inr ⟨_, _, rfl, by first | assumption | omega⟩ | exact .inr ⟨_, _, rfl, (Int.toNat_of_nonneg (by omega)).symm⟩) (by first | exact .inl ⟨rfl, rfl⟩ | exact .inr ⟨_, _, rfl, rfl⟩ | exact .inr ⟨_, _, rfl, by first | assumption | omega⟩ | exact .inr ⟨_, _, rfl, (Int.toNat_of_nonneg (by omega)).symm⟩) (by omega) (by omega) (by omega)) (by simp only [hz4, Nat.mul_one, Nat.zero_add]; exact rfl) ?_
            refine WD.e (tb := tb) rfl rfl rfl rfl rfl (evE_H (evH_copyR rfl rfl rfl rfl rfl (by first | exact Nat.min_eq_left (by omega) | exact Nat.min_eq_right (by omega)) (by omega) (by omega) (cellsAt_rows (R := rwI .u8) (k := i * 4) rfl rfl (by simp only [Nat.mul_one]) (by omega)) rfl (Nat.zero_le _) (by first | rfl | exact allI _ _) (by first | exact rfl | (simp only [Bk_len, vcells, List.length_cons, List.length_nil, cellsI_len, cellsB_len, List.length_set, List.length_replicate, List.length_append, List.length_map, List.length_take, List.length_drop]; omega) | omega) (by first | exact rfl | (simp only [Bk_len, vcells, List.length_cons, List.length_nil, cellsI_len, cellsB_len, List.length_set, List.length_replicate, List.length_append, List.length_map, List.length_take, List.length_drop]; omega) | omega))) ?_; rw [upd_mem _ rfl]; simp only [vcells, List.set_cons_zero, List.set_cons_succ, hst1, hst2]; (try simp only [setL, List.set_cons_zero, List.set_cons_succ])
            refine WD.fin rfl ?_
            refine jg ?_
            refine jW ?_
            refine jo ?_
            refine je ?_
            refine WS.nil ?_
            exact ⟨i + 1, ⟨by omega, by omega⟩, by omega, (jSn [0,1,2,3] (by simp [jVb, jOb, jMb, mapL_cellsR, okL_cellsR, hl3, hl4]) (by simp only [jSl, jOb, jMb, Nat.reduceAdd, Nat.reduceLT, hl3, hl4] <;> exact jClo))⟩
      · obtain rfl : i = m := by omega
        simp only [ndM, dtB, List.cons_append, List.nil_append]
        refine jq ?_
        refine jg ?_
        refine jDF ?_
        refine je ?_
        refine jq ?_
        refine WS.pcondF rfl rfl ?_
        refine WS.pout rfl rfl ?_
        exact ⟨rfl, (), by omega, (jSn [0,1,2,3] (by simp [jVb, jOb, jMb, mapL_cellsR, okL_cellsR, ndM, dtB]) (by simp only [jSl, jOb, jMb, Nat.reduceAdd, Nat.reduceLT, ndM, dtB] <;> exact jClo))⟩
    · rintro _ hJ
      have hm0 : ¬ m = 0 := by omega
      have hl1 : (bsK x.bs D page m).length = x.bs.length := bsK_len hpl (by omega)
      have hl2 : (bkK x.bk b y r m).length = x.bk.length := bkK_len _ _ _ _ _
      have e1 : ¬ (0 ≤ x.cut ∧ x.cut < prM x) := by rw [← hm]; exact hJ
      cases fl with
      | true =>
        have h0 : x.fail = 0 := hfl.2 rfl
        have hm4 : m = 4 := by rw [hm]; unfold prM; rw [if_pos h0]
        have hres : prE x = 6 := by unfold prE; rw [if_neg e1, if_pos h0]
        have hget := bkK_get hy r m
        rw [if_neg hm0] at hget
        have hst := Bk_set_bad hget true
        have hset : (bkK x.bk b y r m).set b { y with next := (r : Int) + 1, bad := true } = x.bk.set b { y with next := (r : Int) + 1, bad := true } := by simp [bkK, hm0, List.set_set]
        simp only [hset] at hst
        have hres2 : prS x page b r D y = { prK u page b r D y m with bk := x.bk.set b { y with next := (r : Int) + 1, bad := true } } := by
          unfold prS
          rw [if_neg e1, if_pos h0, ← hu, hm4]
        rw [hres2]
        simp only [prK, u1, u2, u3, u4, u5, ndM, dtB, List.cons_append, List.nil_append, hl1, hl2, List.length_set]
        iterate 2 refine jq ?_
        refine jg ?_
        refine jo ?_
        refine je ?_
        refine WS.pcondT rfl rfl ?_
        refine jq ?_
        refine jg ?_
        iterate 2 refine jo ?_
        refine jP ?_
        refine WS.po0 (tb := tb) rfl rfl rfl rfl (step_H rfl rfl (evH_store rfl rfl rfl rfl rfl (Nat.zero_le _) rfl (by simp [vcells]) (by simp only [Bk_len, vcells, List.length_cons, List.length_nil, cellsI_len, cellsB_len, List.length_set, List.length_replicate, List.length_append, List.length_map, List.length_take, List.length_drop]; omega))) ?_; rw [upd_mem _ rfl]; simp only [vcells, List.set_cons_zero, List.set_cons_succ, hst]; (try simp only [setL, List.set_cons_zero, List.set_cons_succ])
        refine je ?_
        refine jq ?_
        refine jg ?_
        refine jo ?_
        refine je ?_
        refine WS.pret rfl ⟨.inr rfl, _, rfl, ?_⟩
        exact ⟨_, rfl, by rw [hres], rfl⟩
      | false =>
        have h0 : ¬ x.fail = 0 := fun e => by have := hfl.1 e; cases this
        have hm17 : m = 17 := by rw [hm]; unfold prM; rw [if_neg h0]
        have hres : prE x = 0 := by unfold prE; rw [if_neg e1, if_neg h0]
        have hres2 : prS x page b r D y = prK u page b r D y m := by
          unfold prS
          rw [if_neg e1, if_neg h0, ← hu, hm17]
        rw [hres2]
        simp only [ndM, dtB, List.cons_append, List.nil_append]
        iterate 2 refine jq ?_
        refine jg ?_
        refine jo ?_
        refine je ?_
        refine WS.pcondF rfl rfl ?_
        refine WS.pskip rfl ?_
        refine jq ?_
        refine jg ?_
        refine jo ?_
        refine je ?_
        refine WS.pret rfl ⟨.inr rfl, _, rfl, ?_⟩
        exact ⟨_, rfl, by rw [hres], rfl⟩
  by_cases h0 : x.fail = 0
  · have hB3 : (({ x with pr := x.pr + 1 } : NS).fail == 0) = true := by simp [h0]
    rw [hB3] at B
    have hm4 : m = 4 := by rw [hm]; unfold prM; rw [if_pos h0]
    subst hm4
    simp only [ndR, ndM, ho] at A B
    simp only [ho]
    refine jq ?_
    refine jg ?_
    refine jo ?_
    refine je ?_
    iterate 2 refine jq ?_
    refine WS.pdraw (tb := tb) (by kernel_rfl) rfl (by kernel_rfl) (by kernel_rfl) ?_
    refine jp ?_
    refine WD.pB (tb := tb) false rfl rfl rfl rfl rfl rfl ?_
    iterate 4 refine jp ?_
    refine jd ?_
    refine jr ?_
    iterate 3 refine jp ?_
    refine jd ?_
    refine jr ?_
    refine WD.p (tb := tb) rfl rfl rfl rfl (evP_mulV rfl rfl rfl (by assumption) (by simp only [lo]; omega) (by simp only [Am.hi]; omega)) ?_
    refine jdDF ?_
    iterate 4 refine jp ?_
    refine WD.pB (tb := tb) false rfl rfl rfl rfl rfl rfl ?_
    refine jp ?_
    refine WD.fin rfl ?_
    refine WS.pcondF rfl rfl ?_
    refine WS.pskip rfl ?_
    refine jq ?_
    refine WS.pdraw (tb := tb) (by kernel_rfl) rfl (by kernel_rfl) (by kernel_rfl) ?_
    iterate 2 refine jp ?_
    refine jd ?_
    refine jr ?_
    iterate 3 refine jp ?_
    refine jd ?_
    refine jr ?_
    refine WD.p (tb := tb) rfl rfl rfl rfl (evP_quoV rfl rfl rfl (by assumption) (by omega) (by simp only [lo]; omega) (by simp only [Am.hi]; omega)) ?_
    refine WD.pP (tb := tb) rfl rfl rfl rfl (evP_index rfl rfl rfl rfl rfl rfl (by omega)) (by simp only [Nat.zero_add, Nat.add_zero, Nat.reduceAdd, Nat.reduceMul, Nat.add_assoc, Nat.mul_one]; exact rfl) ?_
    refine jp ?_
    refine WD.fin rfl ?_
    refine jq ?_
    refine WS.pblock rfl ?_
    refine jq ?_
    refine jg ?_
    iterate 2 refine jo ?_
    refine jP ?_
    iterate 2 refine jo ?_
    refine je ?_
    refine WS.pcondF rfl rfl ?_
    refine jq ?_
    refine jg ?_
    iterate 2 refine jo ?_
    refine jP ?_
    refine WS.po (tb := tb) rfl rfl rfl rfl (step_R rfl (evR_load rfl rfl rfl rfl (l1))) ?_
    refine jo ?_
    refine je ?_
    refine WS.pcondF rfl rfl ?_
    refine jq ?_
    refine WS.pdraw (tb := tb) (by kernel_rfl) rfl (by kernel_rfl) (by kernel_rfl) ?_
    iterate 2 refine jp ?_
    refine jd ?_
    refine WD.r (tb := tb) rfl rfl rfl rfl (evQ_R rfl (evR_load rfl rfl rfl rfl (l2))) ?_
    iterate 4 refine jp ?_
    refine jd ?_
    refine jr ?_
    refine WD.p (tb := tb) rfl rfl rfl rfl (evP_remV rfl rfl rfl (by assumption) (by omega)) ?_
    iterate 2 refine jp ?_
    refine jd ?_
    refine WD.r (tb := tb) rfl rfl rfl rfl (evQ_R rfl (evR_load rfl rfl rfl rfl (l0))) ?_
    refine jdNF ?_
    iterate 2 refine jp ?_
    refine WD.fin rfl ?_
    refine WS.pcondF rfl rfl ?_
    refine WS.pskip rfl ?_
    refine jq ?_
    refine jg ?_
    iterate 2 refine jo ?_
    iterate 2 refine jP ?_
    refine jo ?_
    refine jW ?_
    refine jo ?_
    iterate 2 refine jP ?_
    refine js ?_
    refine je ?_
    refine jq ?_
    refine jg ?_
    refine jo ?_
    refine jc [0,1,2] B (by simp [jOb]) (by simp [jEb, jOb, jMb, mapL_cellsR, okL_cellsR]) ?_; rintro _ _ ⟨rfl, rfl⟩ -; simp only [jPg, jMb, ll, Nat.reduceAdd, Nat.reduceLT, Nat.zero_add, if_true, if_false, Nat.reduceSub, reduceIte, mapL_cellsR, Nat.lt_irrefl, Nat.not_lt_zero, Nat.zero_lt_succ, Nat.lt_add_one]
    refine jo ?_
    refine je ?_
    refine jq ?_
    refine jg ?_
    refine jo ?_
    refine je ?_
    iterate 2 refine jq ?_
    refine jg ?_
    refine jo ?_
    refine je ?_
    refine WS.pcondT rfl rfl ?_
    refine jg ?_
    refine jo ?_
    refine je ?_
    refine jq ?_
    refine jg ?_
    iterate 2 refine jo ?_
    refine jc [0,1,2] A (by simp [jOb]) (by simp [jEb, jOb, jMb, mapL_cellsR, okL_cellsR]) ?_; rintro _ _ ⟨rfl, rfl⟩ -; simp only [jPg, jMb, ll, Nat.reduceAdd, Nat.reduceLT, Nat.zero_add, if_true, if_false, Nat.reduceSub, reduceIte, mapL_cellsR, Nat.lt_irrefl, Nat.not_lt_zero, Nat.zero_lt_succ, Nat.lt_add_one]
    refine jo ?_
    refine je ?_
    iterate 2 refine jq ?_
    refine jg ?_
    iterate 2 refine jo ?_
    refine je ?_
    refine WS.pblock rfl ?_
    exact WS.seen [0,1,2,3] (jSb (by simp [jVb, jOb, jMb, mapL_cellsR, okL_cellsR, ndM, dtB, u2]) (by simp only [jSl, jOb, jMb, Nat.reduceAdd, Nat.reduceLT, ndM, dtB, u2] <;> exact jClo)) (key true ⟨fun _ => rfl, fun _ => h0⟩)
  · have hB3 : (({ x with pr := x.pr + 1 } : NS).fail == 0) = false := by simp [h0]
    rw [hB3] at B
    have hm17 : m = 17 := by rw [hm]; unfold prM; rw [if_neg h0]
    subst hm17
    simp only [ndR, ndM, ho] at A B
    simp only [ho]
    refine jq ?_
    refine jg ?_
    refine jo ?_
    refine je ?_
    iterate 2 refine jq ?_
    refine WS.pdraw (tb := tb) (by kernel_rfl) rfl (by kernel_rfl) (by kernel_rfl) ?_
    refine jp ?_
    refine WD.pB (tb := tb) false rfl rfl rfl rfl rfl rfl ?_
    iterate 4 refine jp ?_
    refine jd ?_
    refine jr ?_
    iterate 3 refine jp ?_
    refine jd ?_
    refine jr ?_
    refine WD.p (tb := tb) rfl rfl rfl rfl (evP_mulV rfl rfl rfl (by assumption) (by simp only [lo]; omega) (by simp only [Am.hi]; omega)) ?_
    refine jdDF ?_
    iterate 4 refine jp ?_
    refine WD.pB (tb := tb) false rfl rfl rfl rfl rfl rfl ?_
    refine jp ?_
    refine WD.fin rfl ?_
    refine WS.pcondF rfl rfl ?_
    refine WS.pskip rfl ?_
    refine jq ?_
    refine WS.pdraw (tb := tb) (by kernel_rfl) rfl (by kernel_rfl) (by kernel_rfl) ?_
    iterate 2 refine jp ?_
    refine jd ?_
    refine jr ?_
    iterate 3 refine jp ?_
    refine jd ?_
    refine jr ?_
    refine WD.p (tb := tb) rfl rfl rfl rfl (evP_quoV rfl rfl rfl (by assumption) (by omega) (by simp only [lo]; omega) (by simp only [Am.hi]; omega)) ?_
    refine WD.pP (tb := tb) rfl rfl rfl rfl (evP_index rfl rfl rfl rfl rfl rfl (by omega)) (by simp only [Nat.zero_add, Nat.add_zero, Nat.reduceAdd, Nat.reduceMul, Nat.add_assoc, Nat.mul_one]; exact rfl) ?_
    refine jp ?_
    refine WD.fin rfl ?_
    refine jq ?_
    refine WS.pblock rfl ?_
    refine jq ?_
    refine jg ?_
    iterate 2 refine jo ?_
    refine jP ?_
    iterate 2 refine jo ?_
    refine je ?_
    refine WS.pcondF rfl rfl ?_
    refine jq ?_
    refine jg ?_
    iterate 2 refine jo ?_
    refine jP ?_
    refine WS.po (tb := tb) rfl rfl rfl rfl (step_R rfl (evR_load rfl rfl rfl rfl (l1))) ?_
    refine jo ?_
    refine je ?_
    refine WS.pcondF rfl rfl ?_
    refine jq ?_
    refine WS.pdraw (tb := tb) (by kernel_rfl) rfl (by kernel_rfl) (by kernel_rfl) ?_
    iterate 2 refine jp ?_
    refine jd ?_
    refine WD.r (tb := tb) rfl rfl rfl rfl (evQ_R rfl (evR_load rfl rfl rfl rfl (l2))) ?_
    iterate 4 refine jp ?_
    refine jd ?_
    refine jr ?_
    refine WD.p (tb := tb) rfl rfl rfl rfl (evP_remV rfl rfl rfl (by assumption) (by omega)) ?_
    iterate 2 refine jp ?_
    refine jd ?_
    refine WD.r (tb := tb) rfl rfl rfl rfl (evQ_R rfl (evR_load rfl rfl rfl rfl (l0))) ?_
    refine jdNF ?_
    iterate 2 refine jp ?_
    refine WD.fin rfl ?_
    refine WS.pcondF rfl rfl ?_
    refine WS.pskip rfl ?_
    refine jq ?_
    refine jg ?_
    iterate 2 refine jo ?_
    iterate 2 refine jP ?_
    refine jo ?_
    refine jW ?_
    refine jo ?_
    iterate 2 refine jP ?_
    refine js ?_
    refine je ?_
    refine jq ?_
    refine jg ?_
    refine jo ?_
    refine jc [0,1,2] B (by simp [jOb]) (by simp [jEb, jOb, jMb, mapL_cellsR, okL_cellsR]) ?_; rintro _ _ ⟨rfl, rfl⟩ -; simp only [jPg, jMb, ll, Nat.reduceAdd, Nat.reduceLT, Nat.zero_add, if_true, if_false, Nat.reduceSub, reduceIte, mapL_cellsR, Nat.lt_irrefl, Nat.not_lt_zero, Nat.zero_lt_succ, Nat.lt_add_one]
    refine jo ?_
    refine je ?_
    refine jq ?_
    refine jg ?_
    refine jo ?_
    refine je ?_
    iterate 2 refine jq ?_
    refine jg ?_
    refine jo ?_
    refine je ?_
    refine WS.pcondF rfl rfl ?_
    refine WS.pskip rfl ?_
    refine jq ?_
    refine jg ?_
    iterate 2 refine jo ?_
    refine jc [0,1,2] A (by simp [jOb]) (by simp [jEb, jOb, jMb, mapL_cellsR, okL_cellsR]) ?_; rintro _ _ ⟨rfl, rfl⟩ -; simp only [jPg, jMb, ll, Nat.reduceAdd, Nat.reduceLT, Nat.zero_add, if_true, if_false, Nat.reduceSub, reduceIte, mapL_cellsR, Nat.lt_irrefl, Nat.not_lt_zero, Nat.zero_lt_succ, Nat.lt_add_one]
    refine jo ?_
    refine je ?_
    iterate 2 refine jq ?_
    refine jg ?_
    iterate 2 refine jo ?_
    refine je ?_
    refine WS.pblock rfl ?_
    exact WS.seen [0,1,2,3] (jSb (by simp [jVb, jOb, jMb, mapL_cellsR, okL_cellsR, ndM, dtB, u2]) (by simp only [jSl, jOb, jMb, Nat.reduceAdd, Nat.reduceLT, ndM, dtB, u2] <;> exact jClo)) (key false ⟨fun e => absurd e h0, fun e => by cases e⟩)
end Go.Proofs.Ytmkolibmadbenaa.Am

