/- Functions of the flash, walked. Conditions: those of each theorem. -/
import Derived.Test.YtmkolibmadbenaaNd3
import Derived.Test.YtmkolibmadbenaaNr1
namespace Go.Proofs.Ytmkolibmadbenaa.Am
open Go.Proofs
set_option maxRecDepth 1000000
set_option maxHeartbeats 4000000
set_option linter.unusedSimpArgs false
set_option linter.unusedVariables false
def dtA (D : List Int) : List (Option Blk) := [some ⟨cellsR (rwI .u8) D, 5, false⟩]
theorem rprogram_arg (x : NS) (D : List Int) (z : Int) (n c np : Nat) (a : Option (Nat × Nat)) (q : Bool) (hp : (x.bk.length : Int) * x.p = (np : Int)) (hnp : np ≤ 10000) (h : z < 0 ∨ (np : Int) ≤ z ∨ ¬ n = 68) (hn : n ≤ 9223372036854775807) (hbk : x.bk.length ≤ 1000) :
    FM Try.prog 18 [.p (some (4,0)), .i .i64 z, .sl a n c q] (rfM x ++ dtA D) (fun v M' => v = .i .i64 1 ∧ M' = rfM x ++ dtA D) := by
  refine FM.pbody (tb := tb) (fn := Try.f18) rfl rfl ?_
  simp only [argS, Nat.reduceAdd, rfM, dtA, List.length_cons, List.length_nil, List.cons_append, List.nil_append]
  by_cases h0 : z < 0
  · refine WS.pseq rfl ?_
    refine jg ?_
    refine jo ?_
    refine je ?_
    iterate 2 refine jq ?_
    refine WS.pdraw (tb := tb) (by kernel_rfl) rfl (by kernel_rfl) (by kernel_rfl) ?_
    refine jp ?_
    refine jdDT ?_
    refine jp ?_
    iterate 4 refine jno ?_
    refine WD.no1 rfl rfl rfl rfl ?_
    iterate 3 refine jno ?_
    refine WD.no1 rfl rfl rfl rfl ?_
    iterate 2 refine jno ?_
    iterate 2 refine jp ?_
    iterate 3 refine jno ?_
    refine jp ?_
    refine WD.fin rfl ?_
    refine WS.pcondT rfl rfl ?_
    refine jq ?_
    refine jg ?_
    refine jo ?_
    refine je ?_
    refine WS.pret rfl ⟨.inr rfl, _, rfl, ?_⟩
    exact ⟨_, rfl, rfl, rfl⟩
  · by_cases h1 : (np : Int) ≤ z
    · refine WS.pseq rfl ?_
      refine jg ?_
      refine jo ?_
      refine je ?_
      iterate 2 refine jq ?_
      refine WS.pdraw (tb := tb) (by kernel_rfl) rfl (by kernel_rfl) (by kernel_rfl) ?_
      refine jp ?_
      refine jdDF ?_
      iterate 4 refine jp ?_
      refine jd ?_
      refine jr ?_
      iterate 2 refine jp ?_
      refine jd ?_
      refine jr ?_
      refine WD.p (tb := tb) rfl rfl rfl rfl (evP_mulV rfl rfl rfl (by assumption) (by simp only [lo]; omega) (by simp only [Am.hi]; omega)) ?_
      refine jdDT ?_
      iterate 2 refine jp ?_
      iterate 3 refine jno ?_
      refine jp ?_
      refine WD.fin rfl ?_
      refine WS.pcondT rfl rfl ?_
      refine jq ?_
      refine jg ?_
      refine jo ?_
      refine je ?_
      refine WS.pret rfl ⟨.inr rfl, _, rfl, ?_⟩
      exact ⟨_, rfl, rfl, rfl⟩
    · refine WS.pseq rfl ?_
      refine jg ?_
      refine jo ?_
      refine je ?_
      iterate 2 refine jq ?_
      refine WS.pdraw (tb := tb) (by kernel_rfl) rfl (by kernel_rfl) (by kernel_rfl) ?_
      refine jp ?_
      refine jdDF ?_
      iterate 4 refine jp ?_
      refine jd ?_
      refine jr ?_
      iterate 2 refine jp ?_
      refine jd ?_
      refine jr ?_
      refine WD.p (tb := tb) rfl rfl rfl rfl (evP_mulV rfl rfl rfl (by assumption) (by simp only [lo]; omega) (by simp only [Am.hi]; omega)) ?_
      refine jdDF ?_
      iterate 4 refine jp ?_
      refine jdNT ?_
      refine jp ?_
      refine WD.fin rfl ?_
      refine WS.pcondT rfl rfl ?_
      refine jq ?_
      refine jg ?_
      refine jo ?_
      refine je ?_
      refine WS.pret rfl ⟨.inr rfl, _, rfl, ?_⟩
      exact ⟨_, rfl, rfl, rfl⟩
theorem rprogram_no (x : NS) (D : List Int) (page c np b r : Nat) (q : Bool) (y : Bk) (e : Int) (hp : (x.bk.length : Int) * x.p = (np : Int)) (hnp : np ≤ 10000) (h : page < np) (hy : x.bk[b]? = some y) (hq : (page : Int).tdiv x.p = (b : Int)) (hr : (page : Int).tmod x.p = (r : Int)) (hp0 : 0 < x.p) (hrp : r < x.p) (hpm : x.p ≤ 1000) (hbk : x.bk.length ≤ 1000)
    (he : if x.off = true then e = 7 else if y.bad = true then e = 6 else e = 8 ∧ (y.torn = true ∨ ¬ (r : Int) = y.next)) :
    FM Try.prog 18 [.p (some (4,0)), .i .i64 page, .sl (some (5,0)) 68 c q] (rfM x ++ dtA D) (fun v M' => v = .i .i64 e ∧ M' = rfM x ++ dtA D) := by
  have hb := (List.getElem?_eq_some_iff.1 hy).1
  have g1 := map_get Bk.bad hy
  have g2 := map_get Bk.torn hy
  have g3 := map_get Bk.next hy
  refine FM.pbody (tb := tb) (fn := Try.f18) rfl rfl ?_
  simp only [argS, Nat.reduceAdd, rfM, dtA, List.length_cons, List.length_nil, List.cons_append, List.nil_append]
  cases ho : x.off with
  | true =>
    simp only [ho, if_true] at he
    subst he
    simp only [Bool.not_true]
    refine jq ?_
    refine jg ?_
    refine jo ?_
    refine je ?_
    iterate 2 refine jq ?_
    refine WS.pdraw (tb := tb) (by kernel_rfl) rfl (by kernel_rfl) (by kernel_rfl) ?_
    refine jp ?_
    refine WD.pB (tb := tb) false rfl rfl rfl rfl rfl rfl ?_
    iterate 4 refine jp ?_
    refine jd ?_
    refine jr ?_
    iterate 2 refine jp ?_
    refine jd ?_
    refine jr ?_
    refine WD.p (tb := tb) rfl rfl rfl rfl (evP_mulV rfl rfl rfl (by assumption) (by simp only [lo]; omega) (by simp only [Am.hi]; omega)) ?_
    refine jdDF ?_
    iterate 4 refine jp ?_
    refine WD.pB (tb := tb) false rfl rfl rfl rfl rfl rfl ?_
    refine jp ?_
    refine WD.fin rfl ?_
    refine WS.pcondF rfl rfl ?_
    refine WS.pskip rfl ?_
    refine jq ?_
    refine jg ?_
    iterate 3 refine jo ?_
    refine jP ?_
    refine jo ?_
    refine WS.po (tb := tb) rfl rfl rfl rfl (step_P (evP_quoV rfl rfl rfl (by assumption) (by omega) (by simp only [lo]; omega) (by simp only [Am.hi]; omega))) ?_
    refine jo ?_
    refine je ?_
    iterate 2 refine jq ?_
    refine jg ?_
    iterate 2 refine jo ?_
    refine jP ?_
    refine jo ?_
    refine jB true ?_
    refine je ?_
    refine WS.pcondT rfl rfl ?_
    refine jq ?_
    refine jg ?_
    refine jo ?_
    refine je ?_
    refine WS.pret rfl ⟨.inr rfl, _, rfl, ?_⟩
    exact ⟨_, rfl, rfl, rfl⟩
  | false =>
    simp only [ho, Bool.false_eq_true, if_false] at he
    simp only [Bool.not_false]
    cases hyb : y.bad with
    | true =>
      simp only [hyb, if_true] at he
      subst he
      rw [hyb] at g1
      refine jq ?_
      refine jg ?_
      refine jo ?_
      refine je ?_
      iterate 2 refine jq ?_
      refine WS.pdraw (tb := tb) (by kernel_rfl) rfl (by kernel_rfl) (by kernel_rfl) ?_
      refine jp ?_
      refine WD.pB (tb := tb) false rfl rfl rfl rfl rfl rfl ?_
      iterate 4 refine jp ?_
      refine jd ?_
      refine jr ?_
      iterate 2 refine jp ?_
      refine jd ?_
      refine jr ?_
      refine WD.p (tb := tb) rfl rfl rfl rfl (evP_mulV rfl rfl rfl (by assumption) (by simp only [lo]; omega) (by simp only [Am.hi]; omega)) ?_
      refine jdDF ?_
      iterate 4 refine jp ?_
      refine WD.pB (tb := tb) false rfl rfl rfl rfl rfl rfl ?_
      refine jp ?_
      refine WD.fin rfl ?_
      refine WS.pcondF rfl rfl ?_
      refine WS.pskip rfl ?_
      refine jq ?_
      refine jg ?_
      iterate 3 refine jo ?_
      refine jP ?_
      refine jo ?_
      refine WS.po (tb := tb) rfl rfl rfl rfl (step_P (evP_quoV rfl rfl rfl (by assumption) (by omega) (by simp only [lo]; omega) (by simp only [Am.hi]; omega))) ?_
      refine jo ?_
      refine je ?_
      iterate 2 refine jq ?_
      refine jg ?_
      iterate 2 refine jo ?_
      refine jP ?_
      refine jo ?_
      refine jB false ?_
      refine je ?_
      refine WS.pcondF rfl rfl ?_
      refine WS.pskip rfl ?_
      iterate 2 refine jq ?_
      refine jg ?_
      iterate 2 refine jo ?_
      refine jP ?_
      iterate 2 refine jo ?_
      refine jI ?_
      refine WS.po (tb := tb) rfl rfl rfl rfl (step_R rfl (evR_load rfl rfl rfl rfl (cellsB_get g1))) ?_
      refine je ?_
      refine WS.pcondT rfl rfl ?_
      refine jq ?_
      refine jg ?_
      refine jo ?_
      refine je ?_
      refine WS.pret rfl ⟨.inr rfl, _, rfl, ?_⟩
      exact ⟨_, rfl, rfl, rfl⟩
    | false =>
      simp only [hyb, Bool.false_eq_true, if_false] at he
      obtain ⟨rfl, he⟩ := he
      rw [hyb] at g1
      cases hyt : y.torn with
      | true =>
        rw [hyt] at g2
        refine jq ?_
        refine jg ?_
        refine jo ?_
        refine je ?_
        iterate 2 refine jq ?_
        refine WS.pdraw (tb := tb) (by kernel_rfl) rfl (by kernel_rfl) (by kernel_rfl) ?_
        refine jp ?_
        refine WD.pB (tb := tb) false rfl rfl rfl rfl rfl rfl ?_
        iterate 4 refine jp ?_
        refine jd ?_
        refine jr ?_
        iterate 2 refine jp ?_
        refine jd ?_
        refine jr ?_
        refine WD.p (tb := tb) rfl rfl rfl rfl (evP_mulV rfl rfl rfl (by assumption) (by simp only [lo]; omega) (by simp only [Am.hi]; omega)) ?_
        refine jdDF ?_
        iterate 4 refine jp ?_
        refine WD.pB (tb := tb) false rfl rfl rfl rfl rfl rfl ?_
        refine jp ?_
        refine WD.fin rfl ?_
        refine WS.pcondF rfl rfl ?_
        refine WS.pskip rfl ?_
        refine jq ?_
        refine jg ?_
        iterate 3 refine jo ?_
        refine jP ?_
        refine jo ?_
        refine WS.po (tb := tb) rfl rfl rfl rfl (step_P (evP_quoV rfl rfl rfl (by assumption) (by omega) (by simp only [lo]; omega) (by simp only [Am.hi]; omega))) ?_
        refine jo ?_
        refine je ?_
        iterate 2 refine jq ?_
        refine jg ?_
        iterate 2 refine jo ?_
        refine jP ?_
        refine jo ?_
        refine jB false ?_
        refine je ?_
        refine WS.pcondF rfl rfl ?_
        refine WS.pskip rfl ?_
        iterate 2 refine jq ?_
        refine jg ?_
        iterate 2 refine jo ?_
        refine jP ?_
        iterate 2 refine jo ?_
        refine jI ?_
        refine WS.po (tb := tb) rfl rfl rfl rfl (step_R rfl (evR_load rfl rfl rfl rfl (cellsB_get g1))) ?_
        refine je ?_
        refine WS.pcondF rfl rfl ?_
        refine WS.pskip rfl ?_
        iterate 2 refine jq ?_
        refine WS.pdraw (tb := tb) (by kernel_rfl) rfl (by kernel_rfl) (by kernel_rfl) ?_
        iterate 2 refine jp ?_
        refine jd ?_
        refine jr ?_
        refine jp ?_
        refine WD.pP (tb := tb) rfl rfl rfl rfl (evP_index rfl rfl rfl rfl rfl rfl (by omega)) (by simp only [Nat.zero_add, Nat.add_zero, Nat.reduceAdd, Nat.reduceMul, Nat.add_assoc, Nat.mul_one]; exact rfl) ?_
        refine WD.r (tb := tb) rfl rfl rfl rfl (evQ_R rfl (evR_load rfl rfl rfl rfl (cellsB_get g2))) ?_
        refine jp ?_
        iterate 4 refine jno ?_
        refine WD.no1 rfl rfl rfl rfl ?_
        iterate 4 refine jno ?_
        refine WD.no1 rfl rfl rfl rfl ?_
        iterate 2 refine jno ?_
        refine WD.no1 rfl rfl rfl rfl ?_
        refine jno ?_
        refine jp ?_
        refine WD.fin rfl ?_
        refine WS.pcondT rfl rfl ?_
        refine jq ?_
        refine jg ?_
        refine jo ?_
        refine je ?_
        refine WS.pret rfl ⟨.inr rfl, _, rfl, ?_⟩
        exact ⟨_, rfl, rfl, rfl⟩
      | false =>
        rw [hyt] at g2
        simp only [hyt, Bool.false_eq_true, false_or] at he
        refine jq ?_
        refine jg ?_
        refine jo ?_
        refine je ?_
        iterate 2 refine jq ?_
        refine WS.pdraw (tb := tb) (by kernel_rfl) rfl (by kernel_rfl) (by kernel_rfl) ?_
        refine jp ?_
        refine WD.pB (tb := tb) false rfl rfl rfl rfl rfl rfl ?_
        iterate 4 refine jp ?_
        refine jd ?_
        refine jr ?_
        iterate 2 refine jp ?_
        refine jd ?_
        refine jr ?_
        refine WD.p (tb := tb) rfl rfl rfl rfl (evP_mulV rfl rfl rfl (by assumption) (by simp only [lo]; omega) (by simp only [Am.hi]; omega)) ?_
        refine jdDF ?_
        iterate 4 refine jp ?_
        refine WD.pB (tb := tb) false rfl rfl rfl rfl rfl rfl ?_
        refine jp ?_
        refine WD.fin rfl ?_
        refine WS.pcondF rfl rfl ?_
        refine WS.pskip rfl ?_
        refine jq ?_
        refine jg ?_
        iterate 3 refine jo ?_
        refine jP ?_
        refine jo ?_
        refine WS.po (tb := tb) rfl rfl rfl rfl (step_P (evP_quoV rfl rfl rfl (by assumption) (by omega) (by simp only [lo]; omega) (by simp only [Am.hi]; omega))) ?_
        refine jo ?_
        refine je ?_
        iterate 2 refine jq ?_
        refine jg ?_
        iterate 2 refine jo ?_
        refine jP ?_
        refine jo ?_
        refine jB false ?_
        refine je ?_
        refine WS.pcondF rfl rfl ?_
        refine WS.pskip rfl ?_
        iterate 2 refine jq ?_
        refine jg ?_
        iterate 2 refine jo ?_
        refine jP ?_
        iterate 2 refine jo ?_
        refine jI ?_
        refine WS.po (tb := tb) rfl rfl rfl rfl (step_R rfl (evR_load rfl rfl rfl rfl (cellsB_get g1))) ?_
        refine je ?_
        refine WS.pcondF rfl rfl ?_
        refine WS.pskip rfl ?_
        iterate 2 refine jq ?_
        refine WS.pdraw (tb := tb) (by kernel_rfl) rfl (by kernel_rfl) (by kernel_rfl) ?_
        iterate 2 refine jp ?_
        refine jd ?_
        refine jr ?_
        refine jp ?_
        refine WD.pP (tb := tb) rfl rfl rfl rfl (evP_index rfl rfl rfl rfl rfl rfl (by omega)) (by simp only [Nat.zero_add, Nat.add_zero, Nat.reduceAdd, Nat.reduceMul, Nat.add_assoc, Nat.mul_one]; exact rfl) ?_
        refine WD.r (tb := tb) rfl rfl rfl rfl (evQ_R rfl (evR_load rfl rfl rfl rfl (cellsB_get g2))) ?_
        iterate 4 refine jp ?_
        refine jd ?_
        refine jr ?_
        refine WD.p (tb := tb) rfl rfl rfl rfl (evP_remV rfl rfl rfl (by assumption) (by omega)) ?_
        iterate 2 refine jp ?_
        refine jd ?_
        refine jr ?_
        refine jp ?_
        refine WD.pP (tb := tb) rfl rfl rfl rfl (evP_index rfl rfl rfl rfl rfl rfl (by omega)) (by simp only [Nat.zero_add, Nat.add_zero, Nat.reduceAdd, Nat.reduceMul, Nat.add_assoc, Nat.mul_one]; exact rfl) ?_
        refine WD.r (tb := tb) rfl rfl rfl rfl (evQ_R rfl (evR_load rfl rfl rfl rfl (cellsI_get g3))) ?_
        refine jdNT ?_
        refine jp ?_
        refine WD.fin rfl ?_
        refine WS.pcondT rfl rfl ?_
        refine jq ?_
        refine jg ?_
        refine jo ?_
        refine je ?_
        refine WS.pret rfl ⟨.inr rfl, _, rfl, ?_⟩
        exact ⟨_, rfl, rfl, rfl⟩
def inK (u : NS) (page b r : Nat) (D : List Int) (y : Bk) (k i : Nat) : NS := { u with bs := over2 u.bs (page * 68) (D.take (k * 4 + i)), bk := bkK u.bk b y r (k + 1), cut := cutK u.cut (k + 1) }
theorem inK_4 (u : NS) (page b r : Nat) (D : List Int) (y : Bk) (k : Nat) : inK u page b r D y k 4 = prK u page b r D y (k + 1) := by
  simp only [inK, prK, bsK]; rw [show k * 4 + 4 = (k + 1) * 4 by omega]
theorem rprogram_go (x : NS) (D : List Int) (page c np b r : Nat) (q : Bool) (y : Bk) (hp : (x.bk.length : Int) * x.p = (np : Int)) (hnp : np ≤ 10000) (h : page < np) (hy : x.bk[b]? = some y) (hq : (page : Int).tdiv x.p = (b : Int)) (hr : (page : Int).tmod x.p = (r : Int)) (hp0 : 0 < x.p) (hrp : r < x.p) (hpm : x.p ≤ 1000) (hbk : x.bk.length ≤ 1000)
    (ho : x.off = false) (hyb : y.bad = false) (hyt : y.torn = false) (hyn : y.next = r) (hbs : x.bs.length = np * 68) (hD : D.length = 68) (hc : x.cut ≤ 9223372036854775807) (hc1 : -1 ≤ x.cut) (hf : x.fail ≤ 9223372036854775807) (hf1 : -1 ≤ x.fail) (hpr : x.pr ≤ 1000000) (hpr0 : 0 ≤ x.pr) :
    FM Try.prog 18 [.p (some (4,0)), .i .i64 page, .sl (some (5,0)) 68 c q] (rfM x ++ dtA D) (fun v M' => v = .i .i64 (prE x) ∧ M' = rfM (prS x page b r D y) ++ dtA D) := by
  have hb := (List.getElem?_eq_some_iff.1 hy).1
  have g1 := map_get Bk.bad hy
  have g2 := map_get Bk.torn hy
  have g3 := map_get Bk.next hy
  rw [hyb] at g1
  rw [hyt] at g2
  rw [hyn] at g3
  have hpl : page * 68 + 68 ≤ x.bs.length := by rw [hbs]; omega
  have B := rfails_walk { x with pr := x.pr + 1 } hf hf1
  obtain ⟨u, hu⟩ : ∃ u, u = prX x := ⟨_, rfl⟩
  have u1 : u.p = x.p := by rw [hu, prX_p]
  have u2 : u.bs = x.bs := by rw [hu, prX_bs]
  have u3 : u.bk = x.bk := by rw [hu, prX_bk]
  have u4 : u.off = false := by rw [hu, prX_off, ho]
  have u5 : u.cut = x.cut := by rw [hu, prX_cut]
  have hB2 : bgS { x with pr := x.pr + 1 } = u := by rw [hu]; rfl
  rw [hB2] at B
  have hmm : prM x = 4 ∨ prM x = 17 := by unfold prM; split <;> simp
  obtain ⟨m, hm⟩ : ∃ m, m = prM x := ⟨_, rfl⟩
  rw [← hm] at hmm
  refine FM.pbody (tb := tb) (fn := Try.f18) rfl rfl ?_
  simp only [argS, Nat.reduceAdd, rfM, dtA, List.length_cons, List.length_nil, List.cons_append, List.nil_append]
  have key : ∀ fl : Bool, (x.fail = 0 ↔ fl = true) → WS Try.prog (frameN Try.f18 3) 6 [.c (k1 (k2 (k1 (k2 (k2 (k2 (k2 (k2 (k2 (k2 (k2 (kb Try.f18)))))))))))), .b (kid (k2 (k1 (k2 (k2 (k2 (k2 (k2 (k2 (k2 (k2 (kb Try.f18)))))))))))), .c (k2 (k2 (k2 (k2 (k2 (k2 (k2 (k2 (k2 (kb Try.f18))))))))))]
      (slt [(0, .p (some (4,0))), (1, .i .i64 page), (2, .sl (some (5,0)) 68 c q), (7, .i .i64 b), (8, .b fl), (9, .i .i64 0)]) (mem 0 (rfM u ++ dtA D))
      (fun x1 t' h' => (x1 = .n ∨ x1 = .r) ∧ ∃ v, resV tb t' h' (Try.f18).results.toList = some v ∧ ∃ M', h' = mem 0 M' ∧ v = .i .i64 (prE x) ∧ M' = rfM (prS x page b r D y) ++ dtA D) := by
    intro fl hfl
    simp only [rfM, dtA, List.cons_append, List.nil_append]
    refine WS.ploopI (σ := Nat) (τ := Unit) (fun k => [(0, .p (some (4,0))), (1, .i .i64 page), (2, .sl (some (5,0)) 68 c q), (7, .i .i64 b), (8, .b fl), (9, .i .i64 k)]) (fun k => rfM (prK u page b r D y k) ++ dtA D) (fun k => k ≤ m ∧ (x.cut < 0 ∨ (k : Int) ≤ x.cut)) (fun k => m - k)
      (fun _ => []) (fun _ => rfM (prK u page b r D y 17) ++ dtA D) (fun _ => x.fail ≠ 0 ∧ ¬ (0 ≤ x.cut ∧ x.cut < m)) 0 [0,1,2,3,4,5] 0 rfl ⟨Nat.zero_le _, by omega⟩ (jSb (by simp [jVb, jOb, jMb, mapL_cellsR, okL_cellsR, prK_0, rfM, dtA]) (by simp only [jSl, jOb, jMb, Nat.reduceAdd, Nat.reduceLT, prK_0, rfM, dtA] <;> exact jClo)) rfl ?_ ?_
    · rintro k ⟨hk, hck⟩
      have hl1 : (bsK x.bs D page k).length = x.bs.length := bsK_len hpl (by omega)
      have hl2 : (bkK x.bk b y r k).length = x.bk.length := bkK_len _ _ _ _ _
      have e1' : x.fail = 0 → ¬ (0 ≤ x.cut ∧ x.cut < m) → k = m → prE x = 6 ∧ prS x page b r D y = { prK u page b r D y m with bk := x.bk.set b { y with next := (r : Int) + 1, bad := true } } := fun h0 h1 _ => by
        have hm4 : m = 4 := by rw [hm]; unfold prM; rw [if_pos h0]
        refine ⟨by unfold prE; rw [if_neg (by rw [← hm]; exact h1), if_pos h0], ?_⟩
        unfold prS
        rw [if_neg (by rw [← hm]; exact h1), if_pos h0, ← hu, hm4]
      by_cases hlt : k < m
      · have h4 : fl = true → ¬ (k : Int) = 4 := fun e => by
          have hm4 : m = 4 := by rw [hm]; unfold prM; rw [if_pos (hfl.2 e)]
          omega
        have S := rstep_walk (prK u page b r D y k) u4 (by show cutK u.cut k ≤ _; rw [u5]; unfold cutK; split <;> omega)
        by_cases hz : x.cut = k
        · obtain ⟨e1, e2⟩ := stB_Z (page := page) (b := b) (r := r) (D := D) (y := y) u4 (u5.trans hz)
          rw [e1, e2] at S
          have hres : prE x = 7 := by unfold prE; rw [if_pos ⟨by omega, by rw [← hm]; omega⟩]
          have hres2 : prS x page b r D y = { prK u page b r D y k with off := true } := by
            unfold prS
            rw [if_pos ⟨by omega, by rw [← hm]; omega⟩, ← hu, hz, Int.toNat_natCast]
          simp only [rfM, dtA, List.cons_append, List.nil_append]
          cases fl with
          | true =>
            have h4 := h4 rfl
            iterate 2 refine jq ?_
            refine jg ?_
            refine jo ?_
            refine jDT ?_
            refine je ?_
            refine WS.pcondT rfl rfl ?_
            refine WS.pskip rfl ?_
            refine jq ?_
            refine WS.pblock rfl ?_
            iterate 2 refine jq ?_
            refine jg ?_
            iterate 3 refine jo ?_
            refine jDF ?_
            refine jo ?_
            refine je ?_
            refine WS.pcondF rfl rfl ?_
            refine WS.pskip rfl ?_
            iterate 2 refine jq ?_
            refine jg ?_
            refine jo ?_
            refine jc [0,1,2,3,4] S (by simp [jOb, rfM]) (by simp [jEb, jOb, jMb, mapL_cellsR, okL_cellsR, rfM]) ?_; rintro _ _ ⟨rfl, rfl⟩ -; simp only [jPg, jMb, ll, Nat.reduceAdd, Nat.reduceLT, Nat.zero_add, if_true, if_false, Nat.reduceSub, reduceIte, mapL_cellsR, Nat.lt_irrefl, Nat.not_lt_zero, Nat.zero_lt_succ, Nat.lt_add_one, rfM]
            refine jB true ?_
            refine je ?_
            refine WS.pcondT rfl rfl ?_
            refine jq ?_
            refine jg ?_
            refine jo ?_
            refine je ?_
            refine WS.pret rfl ?_
            exact ⟨by simp, _, rfl, _, rfl, by rw [hres], by rw [hres2]⟩
          | false =>
            iterate 2 refine jq ?_
            refine jg ?_
            refine jo ?_
            refine jDT ?_
            refine je ?_
            refine WS.pcondT rfl rfl ?_
            refine WS.pskip rfl ?_
            refine jq ?_
            refine WS.pblock rfl ?_
            iterate 2 refine jq ?_
            refine jg ?_
            iterate 2 refine jo ?_
            iterate 2 refine jN ?_
            refine jo ?_
            refine je ?_
            refine WS.pcondF rfl rfl ?_
            refine WS.pskip rfl ?_
            iterate 2 refine jq ?_
            refine jg ?_
            refine jo ?_
            refine jc [0,1,2,3,4] S (by simp [jOb, rfM]) (by simp [jEb, jOb, jMb, mapL_cellsR, okL_cellsR, rfM]) ?_; rintro _ _ ⟨rfl, rfl⟩ -; simp only [jPg, jMb, ll, Nat.reduceAdd, Nat.reduceLT, Nat.zero_add, if_true, if_false, Nat.reduceSub, reduceIte, mapL_cellsR, Nat.lt_irrefl, Nat.not_lt_zero, Nat.zero_lt_succ, Nat.lt_add_one, rfM]
            refine jB true ?_
            refine je ?_
            refine WS.pcondT rfl rfl ?_
            refine jq ?_
            refine jg ?_
            refine jo ?_
            refine je ?_
            refine WS.pret rfl ?_
            exact ⟨by simp, _, rfl, _, rfl, by rw [hres], by rw [hres2]⟩
        · obtain ⟨e1, e2⟩ := stB_K (page := page) (b := b) (r := r) (D := D) (y := y) u4 (fun e => hz (u5.symm.trans e)) (by rw [u5]; exact hck)
          rw [e1, e2] at S
          have hkl : (bkK x.bk b y r (k + 1)).map Bk.next = (x.bk.map Bk.next).set b ((r : Int) + 1) := by
            rw [bkK, if_neg (by omega), map_set_of Bk.next hy]
          have hkb : (bkK x.bk b y r k).map Bk.bad = x.bk.map Bk.bad ∧ (bkK x.bk b y r (k + 1)).map Bk.bad = x.bk.map Bk.bad := by
            refine ⟨?_, ?_⟩
            · unfold bkK; split
              · rfl
              · exact map_set_id Bk.bad hy rfl
            · rw [bkK, if_neg (by omega)]; exact map_set_id Bk.bad hy rfl
          have hkt : (bkK x.bk b y r k).map Bk.torn = x.bk.map Bk.torn ∧ (bkK x.bk b y r (k + 1)).map Bk.torn = x.bk.map Bk.torn := by
            refine ⟨?_, ?_⟩
            · unfold bkK; split
              · rfl
              · exact map_set_id Bk.torn hy rfl
            · rw [bkK, if_neg (by omega)]; exact map_set_id Bk.torn hy rfl
          have hk0 : k ≠ 0 → (bkK x.bk b y r k).map Bk.next = (bkK x.bk b y r (k + 1)).map Bk.next := fun h0 => by rw [bkK, if_neg h0, bkK, if_neg (by omega)]
          have hst1 := cellsI_set (k := .i64) (xs := x.bk.map Bk.next) (x := (r : Int) + 1) (i := b) (by rw [List.length_map]; exact hb)
          rw [← hkl] at hst1
          have hl4 : (bkK x.bk b y r (k + 1)).length = x.bk.length := bkK_len _ _ _ _ _
          simp only [prK, u1, u2, u3, u4, u5, rfM, dtA, List.cons_append, List.nil_append, hl1, hl2, hkb.1, hkt.1] at S ⊢
          simp only [Bool.not_false] at S ⊢
          have hl0 : (over2 x.bs (page * 68) (D.take (k * 4))).length = x.bs.length := hl1
          have inner : ∀ Q : Ex → T V → LH → Prop, WS Try.prog (frameN Try.f18 3) 6 [.b (kid (k1 (k2 (k1 (k1 (k2 (k1 (k2 (k2 (k2 (k2 (k2 (k2 (k2 (k2 (kb Try.f18)))))))))))))))), .c (k2 (k2 (k1 (k1 (k2 (k1 (k2 (k2 (k2 (k2 (k2 (k2 (k2 (k2 (kb Try.f18)))))))))))))))] (slt [(0, .p (some (4,0))), (1, .i .i64 page), (2, .sl (some (5,0)) 68 c q), (7, .i .i64 b), (8, .b fl), (9, .i .i64 k)]) (mem 0 (rfM (prK u page b r D y (k + 1)) ++ dtA D)) Q →
              WS Try.prog (frameN Try.f18 3) 6 [.c (k1 (k2 (k2 (k2 (k2 (k1 (k1 (k2 (k1 (k1 (k2 (k1 (k2 (k2 (k2 (k2 (k2 (k2 (k2 (k2 (kb Try.f18))))))))))))))))))))), .b (kid (k2 (k2 (k2 (k2 (k1 (k1 (k2 (k1 (k1 (k2 (k1 (k2 (k2 (k2 (k2 (k2 (k2 (k2 (k2 (kb Try.f18))))))))))))))))))))), .b (kid (k1 (k2 (k1 (k1 (k2 (k1 (k2 (k2 (k2 (k2 (k2 (k2 (k2 (k2 (kb Try.f18)))))))))))))))), .c (k2 (k2 (k1 (k1 (k2 (k1 (k2 (k2 (k2 (k2 (k2 (k2 (k2 (k2 (kb Try.f18)))))))))))))))] (slt [(0, .p (some (4,0))), (1, .i .i64 page), (2, .sl (some (5,0)) 68 c q), (7, .i .i64 b), (8, .b fl), (9, .i .i64 k), (10, .i .i64 0)]) (mem 0 (rfM (inK u page b r D y k 0) ++ dtA D)) Q := by
            intro Q hQ
            refine WS.ploopI (σ := Nat) (τ := Unit) (fun i => [(0, .p (some (4,0))), (1, .i .i64 page), (2, .sl (some (5,0)) 68 c q), (7, .i .i64 b), (8, .b fl), (9, .i .i64 k), (10, .i .i64 i)]) (fun i => rfM (inK u page b r D y k i) ++ dtA D) (fun i => i ≤ 4) (fun i => 4 - i)
              (fun _ => [(0, .p (some (4,0))), (1, .i .i64 page), (2, .sl (some (5,0)) 68 c q), (7, .i .i64 b), (8, .b fl), (9, .i .i64 k)]) (fun _ => rfM (prK u page b r D y (k + 1)) ++ dtA D) (fun _ => True) 2 [0,1,2,3,4,5] 0 rfl (Nat.zero_le _) (jSb (by simp [jVb, jOb, jMb, mapL_cellsR, okL_cellsR, rfM, dtA]) (by simp only [jSl, jOb, jMb, Nat.reduceAdd, Nat.reduceLT, rfM, dtA] <;> exact jClo)) rfl ?_ ?_
            · intro i hi
              have hln : ∀ n, n ≤ 68 → (over2 x.bs (page * 68) (D.take n)).length = x.bs.length := fun n hn => over2_len (by rw [List.length_take]; omega)
              have hli := hln (k * 4 + i) (by omega)
              by_cases hlt : i < 4
              · obtain ⟨d, hd⟩ : ∃ d, D[k * 4 + i]? = some d := ⟨_, List.getElem?_eq_getElem (by omega)⟩
                have hlj := hln (k * 4 + (i + 1)) (by omega)
                have e1 : (k : Int) * 4 + (i : Int) = ((k * 4 + i : Nat) : Int) := by omega
                have e2 : (page : Int) * 68 + (k : Int) * 4 + (i : Int) = ((page * 68 + (k * 4 + i) : Nat) : Int) := by omega
                have hst := (cellsI_set (k := .u8) (xs := over2 x.bs (page * 68) (D.take (k * 4 + i))) (x := d) (i := page * 68 + (k * 4 + i)) (by omega)).trans (congrArg _ (over2_set hd (by omega)))
                rw [show k * 4 + i + 1 = k * 4 + (i + 1) by omega] at hst
                simp only [inK, u1, u2, u3, u4, u5, rfM, dtA, List.cons_append, List.nil_append, hli, hl4]
                simp only [Bool.not_false]
                iterate 2 refine jq ?_
                refine jg ?_
                refine jo ?_
                refine jDT ?_
                refine je ?_
                refine WS.pcondT rfl rfl ?_
                refine WS.pskip rfl ?_
                refine jq ?_
                refine WS.pblock rfl ?_
                refine WS.pdraw (tb := tb) (by kernel_rfl) rfl (by kernel_rfl) (by kernel_rfl) ?_
                iterate 2 refine jp ?_
                refine jd ?_
                refine jr ?_
                refine jp ?_
                refine jw ?_
                refine jp ?_
                iterate 2 refine jw ?_
                refine jp ?_
                refine WD.p (tb := tb) rfl rfl rfl rfl (evP_addV rfl rfl rfl (by assumption) (by simp only [lo]; omega) (by simp only [Am.hi]; omega)) ?_
                iterate 2 refine jp ?_
                refine jw ?_
                refine jp ?_
                refine WD.p (tb := tb) rfl rfl rfl rfl (evP_addV rfl rfl rfl (by assumption) (by simp only [lo]; omega) (by simp only [Am.hi]; omega)) ?_
                refine WD.pP (tb := tb) rfl rfl rfl rfl (evP_index rfl rfl rfl rfl rfl rfl (by omega)) (by simp only [Nat.zero_add, Nat.add_zero, Nat.reduceAdd, Nat.reduceMul, Nat.add_assoc, Nat.mul_one]; exact rfl) ?_
                refine WD.r (tb := tb) rfl rfl rfl rfl (evQ_R rfl (evR_load rfl rfl rfl rfl (cellsI_get hd))) ?_
                refine WD.pP (tb := tb) rfl rfl rfl rfl (evP_index rfl rfl rfl rfl rfl rfl (by omega)) (by simp only [Nat.zero_add, Nat.add_zero, Nat.reduceAdd, Nat.reduceMul, Nat.add_assoc, Nat.mul_one]; exact rfl) ?_
                refine WD.e0 (tb := tb) rfl rfl rfl rfl rfl (evE_H (evH_store rfl rfl rfl rfl rfl (Nat.zero_le _) rfl (by simp [vcells]) (by simp only [Bk_len, vcells, List.length_cons, List.length_nil, cellsI_len, cellsB_len, List.length_set, List.length_replicate, List.length_append, List.length_map, List.length_take, List.length_drop, hli]; omega))) ?_; rw [upd_mem _ rfl]; simp only [vcells, List.set_cons_zero, List.set_cons_succ, hst]; (try simp only [setL, List.set_cons_zero, List.set_cons_succ])
                refine WD.fin rfl ?_
                refine jg ?_
                refine jo ?_
                refine jW ?_
                refine jo ?_
                refine je ?_
                refine WS.nil ?_
                exact ⟨i + 1, by omega, by omega, (jSn [0,1,2,3,4,5] (by simp [jVb, jOb, jMb, mapL_cellsR, okL_cellsR, hlj, hl4, inK, rfM, dtA, u1, u2, u3, u4, u5, Bool.not_false]) (by simp only [jSl, jOb, jMb, Nat.reduceAdd, Nat.reduceLT, hlj, hl4, inK, rfM, dtA, u1, u2, u3, u4, u5, Bool.not_false] <;> exact jClo))⟩
              · obtain rfl : i = 4 := by omega
                rw [inK_4]
                simp only [rfM, dtA, List.cons_append, List.nil_append]
                iterate 2 refine jq ?_
                refine jg ?_
                refine jo ?_
                refine jB false ?_
                refine je ?_
                refine WS.pcondF rfl rfl ?_
                refine WS.pout rfl rfl ?_
                exact ⟨rfl, (), trivial, (jSn [0,1,2,3,4,5] (by simp [jVb, jOb, jMb, mapL_cellsR, okL_cellsR, rfM, dtA]) (by simp only [jSl, jOb, jMb, Nat.reduceAdd, Nat.reduceLT, rfM, dtA] <;> exact jClo))⟩
            · rintro _ -
              exact hQ
          cases fl with
          | true =>
            have h4 := h4 rfl
            by_cases h0 : k = 0
            · have hk00 : (k : Int) = 0 := by omega
              have hkz : (bkK x.bk b y r k).map Bk.next = x.bk.map Bk.next := by rw [bkK, if_pos h0]
              simp only [hkz] at S ⊢
              iterate 2 refine jq ?_
              refine jg ?_
              refine jo ?_
              refine jDT ?_
              refine je ?_
              refine WS.pcondT rfl rfl ?_
              refine WS.pskip rfl ?_
              refine jq ?_
              refine WS.pblock rfl ?_
              iterate 2 refine jq ?_
              refine jg ?_
              iterate 3 refine jo ?_
              refine jDF ?_
              refine jo ?_
              refine je ?_
              refine WS.pcondF rfl rfl ?_
              refine WS.pskip rfl ?_
              iterate 2 refine jq ?_
              refine jg ?_
              refine jo ?_
              refine jc [0,1,2,3,4] S (by simp [jOb, rfM]) (by simp [jEb, jOb, jMb, mapL_cellsR, okL_cellsR, rfM]) ?_; rintro _ _ ⟨rfl, rfl⟩ -; simp only [jPg, jMb, ll, Nat.reduceAdd, Nat.reduceLT, Nat.zero_add, if_true, if_false, Nat.reduceSub, reduceIte, mapL_cellsR, Nat.lt_irrefl, Nat.not_lt_zero, Nat.zero_lt_succ, Nat.lt_add_one, rfM]
              refine jB false ?_
              refine je ?_
              refine WS.pcondF rfl rfl ?_
              refine WS.pskip rfl ?_
              iterate 2 refine jq ?_
              refine jg ?_
              refine jo ?_
              refine jDT ?_
              refine je ?_
              refine WS.pcondT rfl rfl ?_
              refine jg ?_
              iterate 2 refine jo ?_
              refine jP ?_
              iterate 2 refine jo ?_
              refine jI ?_
              refine WS.po (tb := tb) rfl rfl rfl rfl (step_R rfl (evR_load rfl rfl rfl rfl (cellsI_get g3))) ?_
              refine jW ?_
              refine jI ?_
              refine WS.po0 (tb := tb) rfl rfl rfl rfl (step_H rfl rfl (evH_store rfl rfl rfl rfl rfl (Nat.zero_le _) rfl (by simp [vcells]) (by simp only [Bk_len, vcells, List.length_cons, List.length_nil, cellsI_len, cellsB_len, List.length_set, List.length_replicate, List.length_append, List.length_map, List.length_take, List.length_drop]; omega))) ?_; rw [upd_mem _ rfl]; simp only [vcells, List.set_cons_zero, List.set_cons_succ, hst1, rfM]; (try simp only [setL, List.set_cons_zero, List.set_cons_succ])
              refine je ?_
              refine jq ?_
              refine jg ?_
              refine jo ?_
              refine je ?_
              refine WS.pblock rfl ?_
              refine WS.seen [0,1,2,3,4,5] (jSb (by simp [jVb, jOb, jMb, mapL_cellsR, okL_cellsR, rfM, inK, bsK, dtA, hl0, u1, u2, u3, u4, u5, hl1, hl4, hkb.2, hkt.2, Bool.not_false, Nat.add_zero]) (by simp only [jSl, jOb, jMb, Nat.reduceAdd, Nat.reduceLT, rfM, inK, bsK, dtA, hl0, u1, u2, u3, u4, u5, hl1, hl4, hkb.2, hkt.2, Bool.not_false, Nat.add_zero] <;> exact jClo)) (inner _ ?_)
              simp only [rfM, dtA, List.cons_append, List.nil_append]
              refine jg ?_
              refine jo ?_
              refine jW ?_
              refine jo ?_
              refine je ?_
              refine WS.nil ?_
              exact ⟨k + 1, ⟨by omega, by omega⟩, by omega, (jSn [0,1,2,3,4,5] (by simp [jVb, jOb, jMb, mapL_cellsR, okL_cellsR, rfM, dtA, prK, u1, u2, u3, u4, u5, Bool.not_false]) (by simp only [jSl, jOb, jMb, Nat.reduceAdd, Nat.reduceLT, rfM, dtA, prK, u1, u2, u3, u4, u5, Bool.not_false] <;> exact jClo))⟩
            · have h00 : ¬ (k : Int) = 0 := by omega
              have hk0' := (hk0 h0).symm
              iterate 2 refine jq ?_
              refine jg ?_
              refine jo ?_
              refine jDT ?_
              refine je ?_
              refine WS.pcondT rfl rfl ?_
              refine WS.pskip rfl ?_
              refine jq ?_
              refine WS.pblock rfl ?_
              iterate 2 refine jq ?_
              refine jg ?_
              iterate 3 refine jo ?_
              refine jDF ?_
              refine jo ?_
              refine je ?_
              refine WS.pcondF rfl rfl ?_
              refine WS.pskip rfl ?_
              iterate 2 refine jq ?_
              refine jg ?_
              refine jo ?_
              refine jc [0,1,2,3,4] S (by simp [jOb, rfM]) (by simp [jEb, jOb, jMb, mapL_cellsR, okL_cellsR, rfM]) ?_; rintro _ _ ⟨rfl, rfl⟩ -; simp only [jPg, jMb, ll, Nat.reduceAdd, Nat.reduceLT, Nat.zero_add, if_true, if_false, Nat.reduceSub, reduceIte, mapL_cellsR, Nat.lt_irrefl, Nat.not_lt_zero, Nat.zero_lt_succ, Nat.lt_add_one, rfM]
              refine jB false ?_
              refine je ?_
              refine WS.pcondF rfl rfl ?_
              refine WS.pskip rfl ?_
              iterate 2 refine jq ?_
              refine jg ?_
              refine jo ?_
              refine jDF ?_
              refine je ?_
              refine WS.pcondF rfl rfl ?_
              refine WS.pskip rfl ?_
              refine jq ?_
              refine jg ?_
              refine jo ?_
              refine je ?_
              refine WS.pblock rfl ?_
              refine WS.seen [0,1,2,3,4,5] (jSb (by simp [jVb, jOb, jMb, mapL_cellsR, okL_cellsR, rfM, inK, bsK, dtA, hl0, u1, u2, u3, u4, u5, hl1, hl4, hkb.2, hkt.2, hk0', Bool.not_false, Nat.add_zero]) (by simp only [jSl, jOb, jMb, Nat.reduceAdd, Nat.reduceLT, rfM, inK, bsK, dtA, hl0, u1, u2, u3, u4, u5, hl1, hl4, hkb.2, hkt.2, hk0', Bool.not_false, Nat.add_zero] <;> exact jClo)) (inner _ ?_)
              simp only [rfM, dtA, List.cons_append, List.nil_append]
              refine jg ?_
              refine jo ?_
              refine jW ?_
              refine jo ?_
              refine je ?_
              refine WS.nil ?_
              exact ⟨k + 1, ⟨by omega, by omega⟩, by omega, (jSn [0,1,2,3,4,5] (by simp [jVb, jOb, jMb, mapL_cellsR, okL_cellsR, rfM, dtA, prK, u1, u2, u3, u4, u5, Bool.not_false]) (by simp only [jSl, jOb, jMb, Nat.reduceAdd, Nat.reduceLT, rfM, dtA, prK, u1, u2, u3, u4, u5, Bool.not_false] <;> exact jClo))⟩
          | false =>
            by_cases h0 : k = 0
            · have hk00 : (k : Int) = 0 := by omega
              have hkz : (bkK x.bk b y r k).map Bk.next = x.bk.map Bk.next := by rw [bkK, if_pos h0]
              simp only [hkz] at S ⊢
              iterate 2 refine jq ?_
              refine jg ?_
              refine jo ?_
              refine jDT ?_
              refine je ?_
              refine WS.pcondT rfl rfl ?_
              refine WS.pskip rfl ?_
              refine jq ?_
              refine WS.pblock rfl ?_
              iterate 2 refine jq ?_
              refine jg ?_
              iterate 2 refine jo ?_
              iterate 2 refine jN ?_
              refine jo ?_
              refine je ?_
              refine WS.pcondF rfl rfl ?_
              refine WS.pskip rfl ?_
              iterate 2 refine jq ?_
              refine jg ?_
              refine jo ?_
              refine jc [0,1,2,3,4] S (by simp [jOb, rfM]) (by simp [jEb, jOb, jMb, mapL_cellsR, okL_cellsR, rfM]) ?_; rintro _ _ ⟨rfl, rfl⟩ -; simp only [jPg, jMb, ll, Nat.reduceAdd, Nat.reduceLT, Nat.zero_add, if_true, if_false, Nat.reduceSub, reduceIte, mapL_cellsR, Nat.lt_irrefl, Nat.not_lt_zero, Nat.zero_lt_succ, Nat.lt_add_one, rfM]
              refine jB false ?_
              refine je ?_
              refine WS.pcondF rfl rfl ?_
              refine WS.pskip rfl ?_
              iterate 2 refine jq ?_
              refine jg ?_
              refine jo ?_
              refine jDT ?_
              refine je ?_
              refine WS.pcondT rfl rfl ?_
              refine jg ?_
              iterate 2 refine jo ?_
              refine jP ?_
              iterate 2 refine jo ?_
              refine jI ?_
              refine WS.po (tb := tb) rfl rfl rfl rfl (step_R rfl (evR_load rfl rfl rfl rfl (cellsI_get g3))) ?_
              refine jW ?_
              refine jI ?_
              refine WS.po0 (tb := tb) rfl rfl rfl rfl (step_H rfl rfl (evH_store rfl rfl rfl rfl rfl (Nat.zero_le _) rfl (by simp [vcells]) (by simp only [Bk_len, vcells, List.length_cons, List.length_nil, cellsI_len, cellsB_len, List.length_set, List.length_replicate, List.length_append, List.length_map, List.length_take, List.length_drop]; omega))) ?_; rw [upd_mem _ rfl]; simp only [vcells, List.set_cons_zero, List.set_cons_succ, hst1, rfM]; (try simp only [setL, List.set_cons_zero, List.set_cons_succ])
              refine je ?_
              refine jq ?_
              refine jg ?_
              refine jo ?_
              refine je ?_
              refine WS.pblock rfl ?_
              refine WS.seen [0,1,2,3,4,5] (jSb (by simp [jVb, jOb, jMb, mapL_cellsR, okL_cellsR, rfM, inK, bsK, dtA, hl0, u1, u2, u3, u4, u5, hl1, hl4, hkb.2, hkt.2, Bool.not_false, Nat.add_zero]) (by simp only [jSl, jOb, jMb, Nat.reduceAdd, Nat.reduceLT, rfM, inK, bsK, dtA, hl0, u1, u2, u3, u4, u5, hl1, hl4, hkb.2, hkt.2, Bool.not_false, Nat.add_zero] <;> exact jClo)) (inner _ ?_)
              simp only [rfM, dtA, List.cons_append, List.nil_append]
              refine jg ?_
              refine jo ?_
              refine jW ?_
              refine jo ?_
              refine je ?_
              refine WS.nil ?_
              exact ⟨k + 1, ⟨by omega, by omega⟩, by omega, (jSn [0,1,2,3,4,5] (by simp [jVb, jOb, jMb, mapL_cellsR, okL_cellsR, rfM, dtA, prK, u1, u2, u3, u4, u5, Bool.not_false]) (by simp only [jSl, jOb, jMb, Nat.reduceAdd, Nat.reduceLT, rfM, dtA, prK, u1, u2, u3, u4, u5, Bool.not_false] <;> exact jClo))⟩
            · have h00 : ¬ (k : Int) = 0 := by omega
              have hk0' := (hk0 h0).symm
              iterate 2 refine jq ?_
              refine jg ?_
              refine jo ?_
              refine jDT ?_
              refine je ?_
              refine WS.pcondT rfl rfl ?_
              refine WS.pskip rfl ?_
              refine jq ?_
              refine WS.pblock rfl ?_
              iterate 2 refine jq ?_
              refine jg ?_
              iterate 2 refine jo ?_
              iterate 2 refine jN ?_
              refine jo ?_
              refine je ?_
              refine WS.pcondF rfl rfl ?_
              refine WS.pskip rfl ?_
              iterate 2 refine jq ?_
              refine jg ?_
              refine jo ?_
              refine jc [0,1,2,3,4] S (by simp [jOb, rfM]) (by simp [jEb, jOb, jMb, mapL_cellsR, okL_cellsR, rfM]) ?_; rintro _ _ ⟨rfl, rfl⟩ -; simp only [jPg, jMb, ll, Nat.reduceAdd, Nat.reduceLT, Nat.zero_add, if_true, if_false, Nat.reduceSub, reduceIte, mapL_cellsR, Nat.lt_irrefl, Nat.not_lt_zero, Nat.zero_lt_succ, Nat.lt_add_one, rfM]
              refine jB false ?_
              refine je ?_
              refine WS.pcondF rfl rfl ?_
              refine WS.pskip rfl ?_
              iterate 2 refine jq ?_
              refine jg ?_
              refine jo ?_
              refine jDF ?_
              refine je ?_
              refine WS.pcondF rfl rfl ?_
              refine WS.pskip rfl ?_
              refine jq ?_
              refine jg ?_
              refine jo ?_
              refine je ?_
              refine WS.pblock rfl ?_
              refine WS.seen [0,1,2,3,4,5] (jSb (by simp [jVb, jOb, jMb, mapL_cellsR, okL_cellsR, rfM, inK, bsK, dtA, hl0, u1, u2, u3, u4, u5, hl1, hl4, hkb.2, hkt.2, hk0', Bool.not_false, Nat.add_zero]) (by simp only [jSl, jOb, jMb, Nat.reduceAdd, Nat.reduceLT, rfM, inK, bsK, dtA, hl0, u1, u2, u3, u4, u5, hl1, hl4, hkb.2, hkt.2, hk0', Bool.not_false, Nat.add_zero] <;> exact jClo)) (inner _ ?_)
              simp only [rfM, dtA, List.cons_append, List.nil_append]
              refine jg ?_
              refine jo ?_
              refine jW ?_
              refine jo ?_
              refine je ?_
              refine WS.nil ?_
              exact ⟨k + 1, ⟨by omega, by omega⟩, by omega, (jSn [0,1,2,3,4,5] (by simp [jVb, jOb, jMb, mapL_cellsR, okL_cellsR, rfM, dtA, prK, u1, u2, u3, u4, u5, Bool.not_false]) (by simp only [jSl, jOb, jMb, Nat.reduceAdd, Nat.reduceLT, rfM, dtA, prK, u1, u2, u3, u4, u5, Bool.not_false] <;> exact jClo))⟩
      · obtain rfl : k = m := by omega
        cases fl with
        | true =>
          have h0 : x.fail = 0 := hfl.2 rfl
          have hm4 : k = 4 := by rw [hm]; unfold prM; rw [if_pos h0]
          subst hm4
          obtain ⟨r1, r2⟩ := e1' h0 (by omega) rfl
          have hb1 : (bkK x.bk b y r 4).map Bk.bad = x.bk.map Bk.bad := by rw [bkK, if_neg (by omega)]; exact map_set_id Bk.bad hy rfl
          have hb2 : (bkK x.bk b y r 4).map Bk.torn = x.bk.map Bk.torn := by rw [bkK, if_neg (by omega)]; exact map_set_id Bk.torn hy rfl
          have hb3 : (x.bk.set b { y with next := (r : Int) + 1, bad := true }).map Bk.torn = x.bk.map Bk.torn := map_set_id Bk.torn hy rfl
          have hb4 : (x.bk.set b { y with next := (r : Int) + 1, bad := true }).map Bk.bad = (x.bk.map Bk.bad).set b true := map_set_of Bk.bad hy _
          have hb5 : (x.bk.set b { y with next := (r : Int) + 1, bad := true }).map Bk.next = (bkK x.bk b y r 4).map Bk.next := by
            rw [bkK, if_neg (by omega), map_set_of Bk.next hy, map_set_of Bk.next hy]
          have hst := cellsB_set (xs := x.bk.map Bk.bad) (x := true) (i := b) (by rw [List.length_map]; exact hb)
          rw [r1, r2]
          simp only [prK, u1, u2, u3, u4, u5, rfM, dtA, List.cons_append, List.nil_append, hl1, hl2, hb1, hb2, hb3, hb4, hb5, List.length_set]
          simp only [Bool.not_false]
          iterate 2 refine jq ?_
          refine jg ?_
          refine jo ?_
          refine jB true ?_
          refine je ?_
          refine WS.pcondT rfl rfl ?_
          refine WS.pskip rfl ?_
          refine jq ?_
          refine WS.pblock rfl ?_
          iterate 2 refine jq ?_
          refine jg ?_
          iterate 3 refine jo ?_
          refine jB true ?_
          refine jo ?_
          refine je ?_
          refine WS.pcondT rfl rfl ?_
          refine jq ?_
          refine jg ?_
          iterate 2 refine jo ?_
          refine jP ?_
          iterate 2 refine jo ?_
          refine jI ?_
          refine WS.po0 (tb := tb) rfl rfl rfl rfl (step_H rfl rfl (evH_store rfl rfl rfl rfl rfl (Nat.zero_le _) rfl (by simp [vcells]) (by simp only [Bk_len, vcells, List.length_cons, List.length_nil, cellsI_len, cellsB_len, List.length_set, List.length_replicate, List.length_append, List.length_map, List.length_take, List.length_drop]; omega))) ?_; rw [upd_mem _ rfl]; simp only [vcells, List.set_cons_zero, List.set_cons_succ, hst]; (try simp only [setL, List.set_cons_zero, List.set_cons_succ])
          refine je ?_
          refine jq ?_
          refine jg ?_
          refine jo ?_
          refine je ?_
          refine WS.pret rfl ?_
          exact ⟨by simp, _, rfl, _, rfl, rfl, rfl⟩
        | false =>
          have h0 : ¬ x.fail = 0 := fun e => by have := hfl.1 e; cases this
          have hm17 : k = 17 := by rw [hm]; unfold prM; rw [if_neg h0]
          subst hm17
          simp only [rfM, dtA, List.cons_append, List.nil_append]
          iterate 2 refine jq ?_
          refine jg ?_
          refine jo ?_
          refine jB false ?_
          refine je ?_
          refine WS.pcondF rfl rfl ?_
          refine WS.pout rfl rfl ?_
          exact ⟨rfl, (), ⟨h0, by omega⟩, (jSn [0,1,2,3,4,5] (by simp [jVb, jOb, jMb, mapL_cellsR, okL_cellsR, rfM, dtA]) (by simp only [jSl, jOb, jMb, Nat.reduceAdd, Nat.reduceLT, rfM, dtA] <;> exact jClo))⟩
    · rintro _ ⟨h0, h1⟩
      have hres : prE x = 0 := by unfold prE; rw [if_neg (by rw [← hm]; exact h1), if_neg h0]
      have hres2 : prS x page b r D y = prK u page b r D y 17 := by
        unfold prS
        rw [if_neg (by rw [← hm]; exact h1), if_neg h0, ← hu]
      rw [hres2]
      simp only [rfM, dtA, List.cons_append, List.nil_append]
      refine jq ?_
      refine jg ?_
      refine jo ?_
      refine je ?_
      refine WS.pret rfl ⟨.inr rfl, _, rfl, ?_⟩
      exact ⟨_, rfl, by rw [hres], rfl⟩
  by_cases h0 : x.fail = 0
  · have hB3 : (({ x with pr := x.pr + 1 } : NS).fail == 0) = true := by simp [h0]
    rw [hB3] at B
    simp only [rfM, u1, u2, u3, u4, u5, ho] at B
    simp only [ho]
    simp only [Bool.not_false] at B ⊢
    refine jq ?_
    refine jg ?_
    refine jo ?_
    refine je ?_
    iterate 2 refine jq ?_
    refine WS.pdraw (tb := tb) (by kernel_rfl) rfl (by kernel_rfl) (by kernel_rfl) ?_
    refine jp ?_
    refine WD.pB (tb := tb) false rfl rfl rfl rfl rfl rfl ?_
    iterate 4 refine jp ?_
    refine jd ?_
    refine jr ?_
    iterate 2 refine jp ?_
    refine jd ?_
    refine jr ?_
    refine WD.p (tb := tb) rfl rfl rfl rfl (evP_mulV rfl rfl rfl (by assumption) (by simp only [lo]; omega) (by simp only [Am.hi]; omega)) ?_
    refine jdDF ?_
    iterate 4 refine jp ?_
    refine WD.pB (tb := tb) false rfl rfl rfl rfl rfl rfl ?_
    refine jp ?_
    refine WD.fin rfl ?_
    refine WS.pcondF rfl rfl ?_
    refine WS.pskip rfl ?_
    refine jq ?_
    refine jg ?_
    iterate 3 refine jo ?_
    refine jP ?_
    refine jo ?_
    refine WS.po (tb := tb) rfl rfl rfl rfl (step_P (evP_quoV rfl rfl rfl (by assumption) (by omega) (by simp only [lo]; omega) (by simp only [Am.hi]; omega))) ?_
    refine jo ?_
    refine je ?_
    iterate 2 refine jq ?_
    refine jg ?_
    iterate 2 refine jo ?_
    refine jP ?_
    refine jo ?_
    refine jB false ?_
    refine je ?_
    refine WS.pcondF rfl rfl ?_
    refine WS.pskip rfl ?_
    iterate 2 refine jq ?_
    refine jg ?_
    iterate 2 refine jo ?_
    refine jP ?_
    iterate 2 refine jo ?_
    refine jI ?_
    refine WS.po (tb := tb) rfl rfl rfl rfl (step_R rfl (evR_load rfl rfl rfl rfl (cellsB_get g1))) ?_
    refine je ?_
    refine WS.pcondF rfl rfl ?_
    refine WS.pskip rfl ?_
    iterate 2 refine jq ?_
    refine WS.pdraw (tb := tb) (by kernel_rfl) rfl (by kernel_rfl) (by kernel_rfl) ?_
    iterate 2 refine jp ?_
    refine jd ?_
    refine jr ?_
    refine jp ?_
    refine WD.pP (tb := tb) rfl rfl rfl rfl (evP_index rfl rfl rfl rfl rfl rfl (by omega)) (by simp only [Nat.zero_add, Nat.add_zero, Nat.reduceAdd, Nat.reduceMul, Nat.add_assoc, Nat.mul_one]; exact rfl) ?_
    refine WD.r (tb := tb) rfl rfl rfl rfl (evQ_R rfl (evR_load rfl rfl rfl rfl (cellsB_get g2))) ?_
    iterate 4 refine jp ?_
    refine jd ?_
    refine jr ?_
    refine WD.p (tb := tb) rfl rfl rfl rfl (evP_remV rfl rfl rfl (by assumption) (by omega)) ?_
    iterate 2 refine jp ?_
    refine jd ?_
    refine jr ?_
    refine jp ?_
    refine WD.pP (tb := tb) rfl rfl rfl rfl (evP_index rfl rfl rfl rfl rfl rfl (by omega)) (by simp only [Nat.zero_add, Nat.add_zero, Nat.reduceAdd, Nat.reduceMul, Nat.add_assoc, Nat.mul_one]; exact rfl) ?_
    refine WD.r (tb := tb) rfl rfl rfl rfl (evQ_R rfl (evR_load rfl rfl rfl rfl (cellsI_get g3))) ?_
    refine jdNF ?_
    refine jp ?_
    refine WD.fin rfl ?_
    refine WS.pcondF rfl rfl ?_
    refine WS.pskip rfl ?_
    refine jq ?_
    refine jg ?_
    iterate 2 refine jo ?_
    refine jP ?_
    refine jo ?_
    refine jW ?_
    refine jo ?_
    refine jP ?_
    refine js ?_
    refine je ?_
    refine jq ?_
    refine jg ?_
    refine jo ?_
    refine jc [0,1,2,3,4] B (by simp [jOb, rfM]) (by simp [jEb, jOb, jMb, mapL_cellsR, okL_cellsR, rfM]) ?_; rintro _ _ ⟨rfl, rfl⟩ -; simp only [jPg, jMb, ll, Nat.reduceAdd, Nat.reduceLT, Nat.zero_add, if_true, if_false, Nat.reduceSub, reduceIte, mapL_cellsR, Nat.lt_irrefl, Nat.not_lt_zero, Nat.zero_lt_succ, Nat.lt_add_one, rfM]
    refine jo ?_
    refine je ?_
    iterate 2 refine jq ?_
    refine jg ?_
    refine jo ?_
    refine je ?_
    refine WS.pblock rfl ?_
    exact WS.seen [0,1,2,3,4,5] (jSb (by simp [jVb, jOb, jMb, mapL_cellsR, okL_cellsR, rfM, dtA, u1, u2, u3, u4, u5, Bool.not_false]) (by simp only [jSl, jOb, jMb, Nat.reduceAdd, Nat.reduceLT, rfM, dtA, u1, u2, u3, u4, u5, Bool.not_false] <;> exact jClo)) (key true ⟨fun _ => rfl, fun _ => h0⟩)
  · have hB3 : (({ x with pr := x.pr + 1 } : NS).fail == 0) = false := by simp [h0]
    rw [hB3] at B
    simp only [rfM, u1, u2, u3, u4, u5, ho] at B
    simp only [ho]
    simp only [Bool.not_false] at B ⊢
    refine jq ?_
    refine jg ?_
    refine jo ?_
    refine je ?_
    iterate 2 refine jq ?_
    refine WS.pdraw (tb := tb) (by kernel_rfl) rfl (by kernel_rfl) (by kernel_rfl) ?_
    refine jp ?_
    refine WD.pB (tb := tb) false rfl rfl rfl rfl rfl rfl ?_
    iterate 4 refine jp ?_
    refine jd ?_
    refine jr ?_
    iterate 2 refine jp ?_
    refine jd ?_
    refine jr ?_
    refine WD.p (tb := tb) rfl rfl rfl rfl (evP_mulV rfl rfl rfl (by assumption) (by simp only [lo]; omega) (by simp only [Am.hi]; omega)) ?_
    refine jdDF ?_
    iterate 4 refine jp ?_
    refine WD.pB (tb := tb) false rfl rfl rfl rfl rfl rfl ?_
    refine jp ?_
    refine WD.fin rfl ?_
    refine WS.pcondF rfl rfl ?_
    refine WS.pskip rfl ?_
    refine jq ?_
    refine jg ?_
    iterate 3 refine jo ?_
    refine jP ?_
    refine jo ?_
    refine WS.po (tb := tb) rfl rfl rfl rfl (step_P (evP_quoV rfl rfl rfl (by assumption) (by omega) (by simp only [lo]; omega) (by simp only [Am.hi]; omega))) ?_
    refine jo ?_
    refine je ?_
    iterate 2 refine jq ?_
    refine jg ?_
    iterate 2 refine jo ?_
    refine jP ?_
    refine jo ?_
    refine jB false ?_
    refine je ?_
    refine WS.pcondF rfl rfl ?_
    refine WS.pskip rfl ?_
    iterate 2 refine jq ?_
    refine jg ?_
    iterate 2 refine jo ?_
    refine jP ?_
    iterate 2 refine jo ?_
    refine jI ?_
    refine WS.po (tb := tb) rfl rfl rfl rfl (step_R rfl (evR_load rfl rfl rfl rfl (cellsB_get g1))) ?_
    refine je ?_
    refine WS.pcondF rfl rfl ?_
    refine WS.pskip rfl ?_
    iterate 2 refine jq ?_
    refine WS.pdraw (tb := tb) (by kernel_rfl) rfl (by kernel_rfl) (by kernel_rfl) ?_
    iterate 2 refine jp ?_
    refine jd ?_
    refine jr ?_
    refine jp ?_
    refine WD.pP (tb := tb) rfl rfl rfl rfl (evP_index rfl rfl rfl rfl rfl rfl (by omega)) (by simp only [Nat.zero_add, Nat.add_zero, Nat.reduceAdd, Nat.reduceMul, Nat.add_assoc, Nat.mul_one]; exact rfl) ?_
    refine WD.r (tb := tb) rfl rfl rfl rfl (evQ_R rfl (evR_load rfl rfl rfl rfl (cellsB_get g2))) ?_
    iterate 4 refine jp ?_
    refine jd ?_
    refine jr ?_
    refine WD.p (tb := tb) rfl rfl rfl rfl (evP_remV rfl rfl rfl (by assumption) (by omega)) ?_
    iterate 2 refine jp ?_
    refine jd ?_
    refine jr ?_
    refine jp ?_
    refine WD.pP (tb := tb) rfl rfl rfl rfl (evP_index rfl rfl rfl rfl rfl rfl (by omega)) (by simp only [Nat.zero_add, Nat.add_zero, Nat.reduceAdd, Nat.reduceMul, Nat.add_assoc, Nat.mul_one]; exact rfl) ?_
    refine WD.r (tb := tb) rfl rfl rfl rfl (evQ_R rfl (evR_load rfl rfl rfl rfl (cellsI_get g3))) ?_
    refine jdNF ?_
    refine jp ?_
    refine WD.fin rfl ?_
    refine WS.pcondF rfl rfl ?_
    refine WS.pskip rfl ?_
    refine jq ?_
    refine jg ?_
    iterate 2 refine jo ?_
    refine jP ?_
    refine jo ?_
    refine jW ?_
    refine jo ?_
    refine jP ?_
    refine js ?_
    refine je ?_
    refine jq ?_
    refine jg ?_
    refine jo ?_
    refine jc [0,1,2,3,4] B (by simp [jOb, rfM]) (by simp [jEb, jOb, jMb, mapL_cellsR, okL_cellsR, rfM]) ?_; rintro _ _ ⟨rfl, rfl⟩ -; simp only [jPg, jMb, ll, Nat.reduceAdd, Nat.reduceLT, Nat.zero_add, if_true, if_false, Nat.reduceSub, reduceIte, mapL_cellsR, Nat.lt_irrefl, Nat.not_lt_zero, Nat.zero_lt_succ, Nat.lt_add_one, rfM]
    refine jo ?_
    refine je ?_
    iterate 2 refine jq ?_
    refine jg ?_
    refine jo ?_
    refine je ?_
    refine WS.pblock rfl ?_
    exact WS.seen [0,1,2,3,4,5] (jSb (by simp [jVb, jOb, jMb, mapL_cellsR, okL_cellsR, rfM, dtA, u1, u2, u3, u4, u5, Bool.not_false]) (by simp only [jSl, jOb, jMb, Nat.reduceAdd, Nat.reduceLT, rfM, dtA, u1, u2, u3, u4, u5, Bool.not_false] <;> exact jClo)) (key false ⟨fun e => absurd e h0, fun e => by cases e⟩)
end Go.Proofs.Ytmkolibmadbenaa.Am

