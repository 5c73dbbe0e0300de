/- Functions of the flash, walked. Conditions: those of each theorem. -/
import Derived.Test.YtmkolibmadbenaaNd1
namespace Go.Proofs.Ytmkolibmadbenaa.Am
open Go.Proofs
set_option maxRecDepth 1000000
set_option maxHeartbeats 4000000
set_option linter.unusedSimpArgs false
set_option linter.unusedVariables false
def bkK (bk : List Bk) (b : Nat) (y : Bk) (r k : Nat) : List Bk := if k = 0 then bk else bk.set b { y with next := (r : Int) + 1 }
def cutK (c : Int) (k : Nat) : Int := if c < 0 then c else c - k
def bsK (bs D : List Int) (page k : Nat) : List Int := over2 bs (page * 68) (D.take (k * 4))
def prK (x : NS) (page b r : Nat) (D : List Int) (y : Bk) (k : Nat) : NS := { x with bs := bsK x.bs D page k, bk := bkK x.bk b y r k, cut := cutK x.cut k }
theorem bkK_len (bk : List Bk) (b : Nat) (y : Bk) (r k : Nat) : (bkK bk b y r k).length = bk.length := by unfold bkK; split <;> simp
theorem bkK_get {bk : List Bk} {b : Nat} {y : Bk} (hy : bk[b]? = some y) (r k : Nat) : (bkK bk b y r k)[b]? = some (if k = 0 then y else { y with next := (r : Int) + 1 }) := by
  have hb := (List.getElem?_eq_some_iff.1 hy).1
  unfold bkK
  split
  · exact hy
  · rw [List.getElem?_set, if_pos rfl, if_pos hb]
theorem bkK_set {bk : List Bk} {b : Nat} {y : Bk} (hy : bk[b]? = some y) (r k : Nat) : setL (cellsR rwBk (bkK bk b y r k)) (b * 4) [.i .i64 ((r : Int) + 1)] = cellsR rwBk (bkK bk b y r (k + 1)) := by
  rw [Bk_set_next (bkK_get hy r k)]
  congr 1
  by_cases h : k = 0
  · simp [bkK, h]
  · simp [bkK, h, List.set_set]
theorem bsK_len {bs D : List Int} {page k : Nat} (h : page * 68 + 68 ≤ bs.length) (hk : k ≤ 17) : (bsK bs D page k).length = bs.length := over2_len (by rw [List.length_take]; omega)
theorem bsK_put {bs D : List Int} {page k : Nat} (h : page * 68 + 68 ≤ bs.length) (hk : k < 17) (hD : 68 ≤ D.length) : setL (cellsR (rwI .u8) (bsK bs D page k)) (page * 68 + k * 4) (cellsR (rwI .u8) ((D.drop (k * 4)).take 4)) = cellsR (rwI .u8) (bsK bs D page (k + 1)) := by
  have h1 : ((D.drop (k * 4)).take 4).length = 4 := by rw [List.length_take, List.length_drop]; omega
  have h2 : (D.take (k * 4)).length = k * 4 := by rw [List.length_take]; omega
  have hl := bsK_len (D := D) (k := k) h (by omega)
  rw [cellsI_over (by rw [hl, h1]; omega)]
  congr 1
  unfold bsK
  have := over2_app (xs := bs) (a := D.take (k * 4)) (b := (D.drop (k * 4)).take 4) (o := page * 68) (by rw [h1, h2]; omega)
  rw [h2] at this
  rw [this, show (k + 1) * 4 = k * 4 + 4 by omega, List.take_add]
def dtB (D : List Int) : List (Option Blk) := [some ⟨cellsR (rwI .u8) D, 5, false⟩]
theorem program_arg (x : NS) (D : List Int) (z : Int) (n c np : Nat) (a : Option (Nat × Nat)) (q : Bool) (ha : a = none ∨ a = some (3, 0)) (hp : (x.bk.length : Int) * x.p = (np : Int)) (hnp : np ≤ 10000) (h : z < 0 ∨ (np : Int) ≤ z ∨ ¬ n = 68) (hn : n ≤ 9223372036854775807) (hbk : x.bk.length ≤ 1000) :
    FM Try.prog 10 [.p (some (2,0)), .i .i64 z, .sl a n c q] (ndM x ++ dtB D) (fun v M' => v = .i .i64 1 ∧ M' = ndM x ++ dtB D) := by
  refine FM.pbody (tb := tb) (fn := Try.f10) rfl rfl ?_
  simp only [argS, Nat.reduceAdd, ndM, dtB, List.length_cons, List.length_nil, List.cons_append, List.nil_append]
  by_cases h0 : z < 0
  · refine WS.pseq rfl ?_
    refine jg ?_
    refine jo ?_
    refine je ?_
    iterate 2 refine jq ?_
    refine WS.pdraw (tb := tb) (by kernel_rfl) rfl (by kernel_rfl) (by kernel_rfl) ?_
    refine jp ?_
    refine jdDT ?_
    refine jp ?_
    iterate 4 refine jno ?_
    refine WD.no1 rfl rfl rfl rfl ?_
    iterate 4 refine jno ?_
    refine WD.no1 rfl rfl rfl rfl ?_
    iterate 2 refine jno ?_
    iterate 2 refine jp ?_
    iterate 3 refine jno ?_
    refine jp ?_
    refine WD.fin rfl ?_
    refine WS.pcondT rfl rfl ?_
    refine jq ?_
    refine jg ?_
    refine jo ?_
    refine je ?_
    refine WS.pret rfl ⟨.inr rfl, _, rfl, ?_⟩
    exact ⟨_, rfl, rfl, rfl⟩
  · by_cases h1 : (np : Int) ≤ z
    · refine WS.pseq rfl ?_
      refine jg ?_
      refine jo ?_
      refine je ?_
      iterate 2 refine jq ?_
      refine WS.pdraw (tb := tb) (by kernel_rfl) rfl (by kernel_rfl) (by kernel_rfl) ?_
      refine jp ?_
      refine jdDF ?_
      iterate 4 refine jp ?_
      refine jd ?_
      refine jr ?_
      iterate 3 refine jp ?_
      refine jd ?_
      refine jr ?_
      refine WD.p (tb := tb) rfl rfl rfl rfl (evP_mulV rfl rfl rfl (by assumption) (by simp only [lo]; omega) (by simp only [Am.hi]; omega)) ?_
      refine jdDT ?_
      iterate 2 refine jp ?_
      iterate 3 refine jno ?_
      refine jp ?_
      refine WD.fin rfl ?_
      refine WS.pcondT rfl rfl ?_
      refine jq ?_
      refine jg ?_
      refine jo ?_
      refine je ?_
      refine WS.pret rfl ⟨.inr rfl, _, rfl, ?_⟩
      exact ⟨_, rfl, rfl, rfl⟩
    · refine WS.pseq rfl ?_
      refine jg ?_
      refine jo ?_
      refine je ?_
      iterate 2 refine jq ?_
      refine WS.pdraw (tb := tb) (by kernel_rfl) rfl (by kernel_rfl) (by kernel_rfl) ?_
      refine jp ?_
      refine jdDF ?_
      iterate 4 refine jp ?_
      refine jd ?_
      refine jr ?_
      iterate 3 refine jp ?_
      refine jd ?_
      refine jr ?_
      refine WD.p (tb := tb) rfl rfl rfl rfl (evP_mulV rfl rfl rfl (by assumption) (by simp only [lo]; omega) (by simp only [Am.hi]; omega)) ?_
      refine jdDF ?_
      iterate 4 refine jp ?_
      refine jdNT ?_
      refine jp ?_
      refine WD.fin rfl ?_
      refine WS.pcondT rfl rfl ?_
      refine jq ?_
      refine jg ?_
      refine jo ?_
      refine je ?_
      refine WS.pret rfl ⟨.inr rfl, _, rfl, ?_⟩
      exact ⟨_, rfl, rfl, rfl⟩
theorem program_no (x : NS) (D : List Int) (page c np b r : Nat) (q : Bool) (y : Bk) (e : Int) (hp : (x.bk.length : Int) * x.p = (np : Int)) (hnp : np ≤ 10000) (h : page < np) (hy : x.bk[b]? = some y) (hq : (page : Int).tdiv x.p = (b : Int)) (hr : (page : Int).tmod x.p = (r : Int)) (hp0 : 0 < x.p) (hrp : r < x.p) (hpm : x.p ≤ 1000) (hbk : x.bk.length ≤ 1000)
    (he : if x.off = true then e = 7 else if y.bad = true then e = 6 else e = 8 ∧ (y.torn = true ∨ ¬ (r : Int) = y.next)) :
    FM Try.prog 10 [.p (some (2,0)), .i .i64 page, .sl (some (3,0)) 68 c q] (ndM x ++ dtB D) (fun v M' => v = .i .i64 e ∧ M' = ndM x ++ dtB D) := by
  have hb := (List.getElem?_eq_some_iff.1 hy).1
  refine FM.pbody (tb := tb) (fn := Try.f10) rfl rfl ?_
  simp only [argS, Nat.reduceAdd, ndM, dtB, List.length_cons, List.length_nil, List.cons_append, List.nil_append]
  obtain ⟨p, bs, bk, off, cut, fail, rd, pr, er⟩ := x
  simp only at hp hp0 hrp hpm hbk hb hy hq hr he ⊢
  cases off with
  | true =>
    simp only [if_true] at he
    subst he
    refine jq ?_
    refine jg ?_
    refine jo ?_
    refine je ?_
    iterate 2 refine jq ?_
    refine WS.pdraw (tb := tb) (by kernel_rfl) rfl (by kernel_rfl) (by kernel_rfl) ?_
    refine jp ?_
    refine WD.pB (tb := tb) false rfl rfl rfl rfl rfl rfl ?_
    iterate 4 refine jp ?_
    refine jd ?_
    refine jr ?_
    iterate 3 refine jp ?_
    refine jd ?_
    refine jr ?_
    refine WD.p (tb := tb) rfl rfl rfl rfl (evP_mulV rfl rfl rfl (by assumption) (by simp only [lo]; omega) (by simp only [Am.hi]; omega)) ?_
    refine jdDF ?_
    iterate 4 refine jp ?_
    refine WD.pB (tb := tb) false rfl rfl rfl rfl rfl rfl ?_
    refine jp ?_
    refine WD.fin rfl ?_
    refine WS.pcondF rfl rfl ?_
    refine WS.pskip rfl ?_
    refine jq ?_
    refine WS.pdraw (tb := tb) (by kernel_rfl) rfl (by kernel_rfl) (by kernel_rfl) ?_
    iterate 2 refine jp ?_
    refine jd ?_
    refine jr ?_
    iterate 3 refine jp ?_
    refine jd ?_
    refine jr ?_
    refine WD.p (tb := tb) rfl rfl rfl rfl (evP_quoV rfl rfl rfl (by assumption) (by omega) (by simp only [lo]; omega) (by simp only [Am.hi]; omega)) ?_
    refine WD.pP (tb := tb) rfl rfl rfl rfl (evP_index rfl rfl rfl rfl rfl rfl (by omega)) (by simp only [Nat.zero_add, Nat.add_zero, Nat.reduceAdd, Nat.reduceMul, Nat.add_assoc, Nat.mul_one]; exact rfl) ?_
    refine jp ?_
    refine WD.fin rfl ?_
    refine jq ?_
    refine WS.pblock rfl ?_
    refine jq ?_
    refine jg ?_
    iterate 2 refine jo ?_
    refine jP ?_
    iterate 2 refine jo ?_
    refine je ?_
    refine WS.pcondT rfl rfl ?_
    refine jq ?_
    refine jg ?_
    refine jo ?_
    refine je ?_
    refine WS.pret rfl ⟨.inr rfl, _, rfl, ?_⟩
    exact ⟨_, rfl, rfl, rfl⟩
  | false =>
    obtain ⟨yn, yb, yt, yw⟩ := y
    simp only [Bool.false_eq_true, if_false] at he
    cases yb with
    | true =>
      simp only [if_true] at he
      subst he
      refine jq ?_
      refine jg ?_
      refine jo ?_
      refine je ?_
      iterate 2 refine jq ?_
      refine WS.pdraw (tb := tb) (by kernel_rfl) rfl (by kernel_rfl) (by kernel_rfl) ?_
      refine jp ?_
      refine WD.pB (tb := tb) false rfl rfl rfl rfl rfl rfl ?_
      iterate 4 refine jp ?_
      refine jd ?_
      refine jr ?_
      iterate 3 refine jp ?_
      refine jd ?_
      refine jr ?_
      refine WD.p (tb := tb) rfl rfl rfl rfl (evP_mulV rfl rfl rfl (by assumption) (by simp only [lo]; omega) (by simp only [Am.hi]; omega)) ?_
      refine jdDF ?_
      iterate 4 refine jp ?_
      refine WD.pB (tb := tb) false rfl rfl rfl rfl rfl rfl ?_
      refine jp ?_
      refine WD.fin rfl ?_
      refine WS.pcondF rfl rfl ?_
      refine WS.pskip rfl ?_
      refine jq ?_
      refine WS.pdraw (tb := tb) (by kernel_rfl) rfl (by kernel_rfl) (by kernel_rfl) ?_
      iterate 2 refine jp ?_
      refine jd ?_
      refine jr ?_
      iterate 3 refine jp ?_
      refine jd ?_
      refine jr ?_
      refine WD.p (tb := tb) rfl rfl rfl rfl (evP_quoV rfl rfl rfl (by assumption) (by omega) (by simp only [lo]; omega) (by simp only [Am.hi]; omega)) ?_
      refine WD.pP (tb := tb) rfl rfl rfl rfl (evP_index rfl rfl rfl rfl rfl rfl (by omega)) (by simp only [Nat.zero_add, Nat.add_zero, Nat.reduceAdd, Nat.reduceMul, Nat.add_assoc, Nat.mul_one]; exact rfl) ?_
      refine jp ?_
      refine WD.fin rfl ?_
      refine jq ?_
      refine WS.pblock rfl ?_
      refine jq ?_
      refine jg ?_
      iterate 2 refine jo ?_
      refine jP ?_
      iterate 2 refine jo ?_
      refine je ?_
      refine WS.pcondF rfl rfl ?_
      refine jq ?_
      refine jg ?_
      iterate 2 refine jo ?_
      refine jP ?_
      refine WS.po (tb := tb) rfl rfl rfl rfl (step_R rfl (evR_load rfl rfl rfl rfl (cellsR_get hy rfl))) ?_
      refine jo ?_
      refine je ?_
      refine WS.pcondT rfl rfl ?_
      refine jq ?_
      refine jg ?_
      refine jo ?_
      refine je ?_
      refine WS.pret rfl ⟨.inr rfl, _, rfl, ?_⟩
      exact ⟨_, rfl, rfl, rfl⟩
    | false =>
      simp only [Bool.false_eq_true, if_false] at he
      obtain ⟨rfl, he⟩ := he
      cases yt with
      | true =>
        refine jq ?_
        refine jg ?_
        refine jo ?_
        refine je ?_
        iterate 2 refine jq ?_
        refine WS.pdraw (tb := tb) (by kernel_rfl) rfl (by kernel_rfl) (by kernel_rfl) ?_
        refine jp ?_
        refine WD.pB (tb := tb) false rfl rfl rfl rfl rfl rfl ?_
        iterate 4 refine jp ?_
        refine jd ?_
        refine jr ?_
        iterate 3 refine jp ?_
        refine jd ?_
        refine jr ?_
        refine WD.p (tb := tb) rfl rfl rfl rfl (evP_mulV rfl rfl rfl (by assumption) (by simp only [lo]; omega) (by simp only [Am.hi]; omega)) ?_
        refine jdDF ?_
        iterate 4 refine jp ?_
        refine WD.pB (tb := tb) false rfl rfl rfl rfl rfl rfl ?_
        refine jp ?_
        refine WD.fin rfl ?_
        refine WS.pcondF rfl rfl ?_
        refine WS.pskip rfl ?_
        refine jq ?_
        refine WS.pdraw (tb := tb) (by kernel_rfl) rfl (by kernel_rfl) (by kernel_rfl) ?_
        iterate 2 refine jp ?_
        refine jd ?_
        refine jr ?_
        iterate 3 refine jp ?_
        refine jd ?_
        refine jr ?_
        refine WD.p (tb := tb) rfl rfl rfl rfl (evP_quoV rfl rfl rfl (by assumption) (by omega) (by simp only [lo]; omega) (by simp only [Am.hi]; omega)) ?_
        refine WD.pP (tb := tb) rfl rfl rfl rfl (evP_index rfl rfl rfl rfl rfl rfl (by omega)) (by simp only [Nat.zero_add, Nat.add_zero, Nat.reduceAdd, Nat.reduceMul, Nat.add_assoc, Nat.mul_one]; exact rfl) ?_
        refine jp ?_
        refine WD.fin rfl ?_
        refine jq ?_
        refine WS.pblock rfl ?_
        refine jq ?_
        refine jg ?_
        iterate 2 refine jo ?_
        refine jP ?_
        iterate 2 refine jo ?_
        refine je ?_
        refine WS.pcondF rfl rfl ?_
        refine jq ?_
        refine jg ?_
        iterate 2 refine jo ?_
        refine jP ?_
        refine WS.po (tb := tb) rfl rfl rfl rfl (step_R rfl (evR_load rfl rfl rfl rfl (cellsR_get hy rfl))) ?_
        refine jo ?_
        refine je ?_
        refine WS.pcondF rfl rfl ?_
        refine jq ?_
        refine WS.pdraw (tb := tb) (by kernel_rfl) rfl (by kernel_rfl) (by kernel_rfl) ?_
        iterate 2 refine jp ?_
        refine jd ?_
        refine WD.r (tb := tb) rfl rfl rfl rfl (evQ_R rfl (evR_load rfl rfl rfl rfl (cellsR_get hy rfl))) ?_
        refine jp ?_
        iterate 4 refine jno ?_
        refine WD.no1 rfl rfl rfl rfl ?_
        iterate 4 refine jno ?_
        refine WD.no1 rfl rfl rfl rfl ?_
        refine jno ?_
        iterate 2 refine jp ?_
        refine WD.fin rfl ?_
        refine WS.pcondT rfl rfl ?_
        refine jq ?_
        refine jg ?_
        refine jo ?_
        refine je ?_
        refine WS.pret rfl ⟨.inr rfl, _, rfl, ?_⟩
        exact ⟨_, rfl, rfl, rfl⟩
      | false =>
        simp only [Bool.false_eq_true, false_or] at he
        refine jq ?_
        refine jg ?_
        refine jo ?_
        refine je ?_
        iterate 2 refine jq ?_
        refine WS.pdraw (tb := tb) (by kernel_rfl) rfl (by kernel_rfl) (by kernel_rfl) ?_
        refine jp ?_
        refine WD.pB (tb := tb) false rfl rfl rfl rfl rfl rfl ?_
        iterate 4 refine jp ?_
        refine jd ?_
        refine jr ?_
        iterate 3 refine jp ?_
        refine jd ?_
        refine jr ?_
        refine WD.p (tb := tb) rfl rfl rfl rfl (evP_mulV rfl rfl rfl (by assumption) (by simp only [lo]; omega) (by simp only [Am.hi]; omega)) ?_
        refine jdDF ?_
        iterate 4 refine jp ?_
        refine WD.pB (tb := tb) false rfl rfl rfl rfl rfl rfl ?_
        refine jp ?_
        refine WD.fin rfl ?_
        refine WS.pcondF rfl rfl ?_
        refine WS.pskip rfl ?_
        refine jq ?_
        refine WS.pdraw (tb := tb) (by kernel_rfl) rfl (by kernel_rfl) (by kernel_rfl) ?_
        iterate 2 refine jp ?_
        refine jd ?_
        refine jr ?_
        iterate 3 refine jp ?_
        refine jd ?_
        refine jr ?_
        refine WD.p (tb := tb) rfl rfl rfl rfl (evP_quoV rfl rfl rfl (by assumption) (by omega) (by simp only [lo]; omega) (by simp only [Am.hi]; omega)) ?_
        refine WD.pP (tb := tb) rfl rfl rfl rfl (evP_index rfl rfl rfl rfl rfl rfl (by omega)) (by simp only [Nat.zero_add, Nat.add_zero, Nat.reduceAdd, Nat.reduceMul, Nat.add_assoc, Nat.mul_one]; exact rfl) ?_
        refine jp ?_
        refine WD.fin rfl ?_
        refine jq ?_
        refine WS.pblock rfl ?_
        refine jq ?_
        refine jg ?_
        iterate 2 refine jo ?_
        refine jP ?_
        iterate 2 refine jo ?_
        refine je ?_
        refine WS.pcondF rfl rfl ?_
        refine jq ?_
        refine jg ?_
        iterate 2 refine jo ?_
        refine jP ?_
        refine WS.po (tb := tb) rfl rfl rfl rfl (step_R rfl (evR_load rfl rfl rfl rfl (cellsR_get hy rfl))) ?_
        refine jo ?_
        refine je ?_
        refine WS.pcondF rfl rfl ?_
        refine jq ?_
        refine WS.pdraw (tb := tb) (by kernel_rfl) rfl (by kernel_rfl) (by kernel_rfl) ?_
        iterate 2 refine jp ?_
        refine jd ?_
        refine WD.r (tb := tb) rfl rfl rfl rfl (evQ_R rfl (evR_load rfl rfl rfl rfl (cellsR_get hy rfl))) ?_
        iterate 4 refine jp ?_
        refine jd ?_
        refine jr ?_
        refine WD.p (tb := tb) rfl rfl rfl rfl (evP_remV rfl rfl rfl (by assumption) (by omega)) ?_
        iterate 2 refine jp ?_
        refine jd ?_
        refine WD.r (tb := tb) rfl rfl rfl rfl (evQ_R rfl (evR_load rfl rfl rfl rfl (cellsR_get0 hy rfl))) ?_
        refine jdNT ?_
        iterate 2 refine jp ?_
        refine WD.fin rfl ?_
        refine WS.pcondT rfl rfl ?_
        refine jq ?_
        refine jg ?_
        refine jo ?_
        refine je ?_
        refine WS.pret rfl ⟨.inr rfl, _, rfl, ?_⟩
        exact ⟨_, rfl, rfl, rfl⟩
end Go.Proofs.Ytmkolibmadbenaa.Am

