/- Functions of the flash, walked. Conditions: those of each theorem. -/
import Derived.Test.YtmkolibmadbenaaNd1
namespace Go.Proofs.Ytmkolibmadbenaa.Am
open Go.Proofs
set_option maxRecDepth 1000000
set_option maxHeartbeats 4000000
set_option linter.unusedSimpArgs false
set_option linter.unusedVariables false
/-- What a block's erase begins with. -/
def erX (x : NS) (n : Nat) (y : Bk) : NS := bgS { x with er := x.er + 1, bk := x.bk.set n { y with wear := y.wear + 1 } }
def erF (u : NS) (n o w : Nat) (v : Int) (z : Bk) : NS := { u with bs := over2 u.bs o (List.replicate w v), bk := u.bk.set n z }
def erE (x : NS) (n o w : Nat) (y : Bk) : Int :=
  if stB (erX x n y) = false then 7 else if x.fail = 0 then 6 else if stB (erF (stS (erX x n y)) n o w 0 ⟨0, y.bad, true, y.wear + 1⟩) = false then 7 else 0
def erS (x : NS) (n o w : Nat) (y : Bk) : NS :=
  let a := stS (erX x n y)
  let b := erF a n o w 0 ⟨0, y.bad, true, y.wear + 1⟩
  if stB (erX x n y) = false then a else if x.fail = 0 then { b with bk := a.bk.set n ⟨0, true, true, y.wear + 1⟩ } else
  if stB b = false then stS b else erF (stS b) n o w 255 ⟨0, y.bad, false, y.wear + 1⟩
theorem stS_keep (x : NS) : (stS x).p = x.p ∧ (stS x).bs = x.bs ∧ (stS x).bk = x.bk ∧ (stS x).fail = x.fail ∧ (stS x).rd = x.rd ∧ (stS x).pr = x.pr ∧ (stS x).er = x.er ∧ (stS x).cut ≤ max x.cut 0 ∧ (-1 ≤ x.cut → -1 ≤ (stS x).cut) := by
  unfold stS
  split
  · exact ⟨rfl, rfl, rfl, rfl, rfl, rfl, rfl, by omega, fun h => h⟩
  · split
    · exact ⟨rfl, rfl, rfl, rfl, rfl, rfl, rfl, by simp only; omega, fun h => h⟩
    · split
      · exact ⟨rfl, rfl, rfl, rfl, rfl, rfl, rfl, by simp only; omega, fun h => by simp only; omega⟩
      · exact ⟨rfl, rfl, rfl, rfl, rfl, rfl, rfl, by omega, fun h => h⟩
theorem bgS_keep (x : NS) : (bgS x).p = x.p ∧ (bgS x).bs = x.bs ∧ (bgS x).bk = x.bk ∧ (bgS x).off = x.off ∧ (bgS x).cut = x.cut ∧ (bgS x).rd = x.rd ∧ (bgS x).pr = x.pr ∧ (bgS x).er = x.er ∧ (bgS x).fail ≤ max x.fail (-1) ∧ (-1 ≤ x.fail → -1 ≤ (bgS x).fail) := by
  unfold bgS
  split
  · exact ⟨rfl, rfl, rfl, rfl, rfl, rfl, rfl, rfl, by simp only; omega, fun h => by simp only; omega⟩
  · exact ⟨rfl, rfl, rfl, rfl, rfl, rfl, rfl, rfl, by omega, fun h => h⟩
theorem erase_arg (x : NS) (z : Int) (h : z < 0 ∨ x.bk.length ≤ z) (hm : x.bk.length ≤ 1000000) : FM Try.prog 13 [.p (some (2,0)), .i .i64 z] (ndM x) (fun v M' => v = .i .i64 1 ∧ M' = ndM x) := by
  refine FM.pbody (tb := tb) (fn := Try.f13) rfl rfl ?_
  simp only [argS, Nat.reduceAdd, ndM, List.length_cons, List.length_nil]
  by_cases h0 : z < 0
  · refine WS.pseq rfl ?_
    refine jg ?_
    refine jo ?_
    refine je ?_
    iterate 2 refine jq ?_
    refine jg ?_
    refine jo ?_
    refine jDT ?_
    refine jo ?_
    iterate 7 refine jN ?_
    refine jo ?_
    refine je ?_
    refine WS.pcondT rfl rfl ?_
    refine jq ?_
    refine jg ?_
    refine jo ?_
    refine je ?_
    refine WS.pret rfl ⟨.inr rfl, _, rfl, ?_⟩
    exact ⟨_, rfl, rfl, rfl⟩
  · refine WS.pseq rfl ?_
    refine jg ?_
    refine jo ?_
    refine je ?_
    iterate 2 refine jq ?_
    refine jg ?_
    refine jo ?_
    refine jDF ?_
    iterate 4 refine jo ?_
    refine jP ?_
    iterate 2 refine jo ?_
    refine jDT ?_
    refine jo ?_
    refine je ?_
    refine WS.pcondT rfl rfl ?_
    refine jq ?_
    refine jg ?_
    refine jo ?_
    refine je ?_
    refine WS.pret rfl ⟨.inr rfl, _, rfl, ?_⟩
    exact ⟨_, rfl, rfl, rfl⟩
theorem erase_no (x : NS) (n : Nat) (y : Bk) (e : Int) (hy : x.bk[n]? = some y) (hm : x.bk.length ≤ 1000000) (he : if x.off = true then e = 7 else e = 6 ∧ y.bad = true) : FM Try.prog 13 [.p (some (2,0)), .i .i64 n] (ndM x) (fun v M' => v = .i .i64 e ∧ M' = ndM x) := by
  have hb := (List.getElem?_eq_some_iff.1 hy).1
  refine FM.pbody (tb := tb) (fn := Try.f13) rfl rfl ?_
  simp only [argS, Nat.reduceAdd, ndM, List.length_cons, List.length_nil]
  obtain ⟨p, bs, bk, off, cut, fail, rd, pr, er⟩ := x
  simp only at hm hb hy he ⊢
  cases off with
  | true =>
    simp only [if_true] at he
    subst he
    refine jq ?_
    refine jg ?_
    refine jo ?_
    refine je ?_
    iterate 2 refine jq ?_
    refine jg ?_
    refine jo ?_
    refine jB false ?_
    iterate 4 refine jo ?_
    refine jP ?_
    iterate 2 refine jo ?_
    refine jDF ?_
    refine jo ?_
    refine je ?_
    refine WS.pcondF rfl rfl ?_
    refine WS.pskip rfl ?_
    refine jq ?_
    refine jg ?_
    iterate 2 refine jo ?_
    refine jP ?_
    iterate 2 refine jo ?_
    refine jI ?_
    refine jo ?_
    refine je ?_
    refine jq ?_
    refine WS.pblock rfl ?_
    refine jq ?_
    refine jg ?_
    iterate 2 refine jo ?_
    refine jP ?_
    iterate 2 refine jo ?_
    refine je ?_
    refine WS.pcondT rfl rfl ?_
    refine jq ?_
    refine jg ?_
    refine jo ?_
    refine je ?_
    refine WS.pret rfl ⟨.inr rfl, _, rfl, ?_⟩
    exact ⟨_, rfl, rfl, rfl⟩
  | false =>
    obtain ⟨yn, yb, yt, yw⟩ := y
    simp only [Bool.false_eq_true, if_false] at he
    obtain ⟨rfl, rfl⟩ := he
    refine jq ?_
    refine jg ?_
    refine jo ?_
    refine je ?_
    iterate 2 refine jq ?_
    refine jg ?_
    refine jo ?_
    refine jB false ?_
    iterate 4 refine jo ?_
    refine jP ?_
    iterate 2 refine jo ?_
    refine jDF ?_
    refine jo ?_
    refine je ?_
    refine WS.pcondF rfl rfl ?_
    refine WS.pskip rfl ?_
    refine jq ?_
    refine jg ?_
    iterate 2 refine jo ?_
    refine jP ?_
    iterate 2 refine jo ?_
    refine jI ?_
    refine jo ?_
    refine je ?_
    refine jq ?_
    refine WS.pblock rfl ?_
    refine jq ?_
    refine jg ?_
    iterate 2 refine jo ?_
    refine jP ?_
    iterate 2 refine jo ?_
    refine je ?_
    refine WS.pcondF rfl rfl ?_
    refine jq ?_
    refine jg ?_
    iterate 2 refine jo ?_
    refine jP ?_
    refine WS.po (tb := tb) rfl rfl rfl rfl (step_R rfl (evR_load rfl rfl rfl rfl (cellsR_get hy rfl))) ?_
    refine jo ?_
    refine je ?_
    refine WS.pcondT rfl rfl ?_
    refine jq ?_
    refine jg ?_
    refine jo ?_
    refine je ?_
    refine WS.pret rfl ⟨.inr rfl, _, rfl, ?_⟩
    exact ⟨_, rfl, rfl, rfl⟩
theorem erase_go (x : NS) (n o1 : Nat) (y : Bk) (hy : x.bk[n]? = some y) (hm : x.bk.length ≤ 1000) (h1 : (n : Int) * x.p = (o1 : Int)) (h2 : ((n : Int) + 1) * x.p = ((o1 + x.p : Nat) : Int)) (h3 : (o1 + x.p) * 68 ≤ x.bs.length) (hbs : x.bs.length ≤ 1000000) (hp0 : 0 < x.p) (ho : x.off = false) (hyb : y.bad = false) (hc : x.cut ≤ 9223372036854775807) (hc1 : -1 ≤ x.cut) (hf : x.fail ≤ 9223372036854775807) (hf1 : -1 ≤ x.fail) (her : x.er ≤ 1000000) (her0 : 0 ≤ x.er) (hw : y.wear ≤ 1000000) (hw0 : 0 ≤ y.wear) :
    FM Try.prog 13 [.p (some (2,0)), .i .i64 n] (ndM x) (fun v M' => v = .i .i64 (erE x n (o1 * 68) (x.p * 68) y) ∧ M' = ndM (erS x n (o1 * 68) (x.p * 68) y)) := by
  have hb := (List.getElem?_eq_some_iff.1 hy).1
  have l1 : (cellsR rwBk x.bk)[n * 4 + 1]? = some (.b false) := by rw [← hyb]; exact cellsR_get (R := rwBk) hy rfl
  have B := begin_walk { x with er := x.er + 1, bk := x.bk.set n { y with wear := y.wear + 1 } } hf
  obtain ⟨u, hu⟩ : ∃ u, u = erX x n y := ⟨_, rfl⟩
  have hB2 : bgS { x with er := x.er + 1, bk := x.bk.set n { y with wear := y.wear + 1 } } = u := by rw [hu]; rfl
  rw [hB2] at B
  obtain ⟨b1, b2, b3, b4, b5, b6, b7, b8, b9, b10⟩ := bgS_keep { x with er := x.er + 1, bk := x.bk.set n { y with wear := y.wear + 1 } }
  rw [hB2] at b1 b2 b3 b4 b5 b6 b7 b8 b9 b10
  simp only at b1 b2 b3 b4 b5 b6 b7 b8 b9 b10
  have S1 := step_walk u (by rw [b5]; exact hc)
  obtain ⟨a, ha⟩ : ∃ a, a = stS u := ⟨_, rfl⟩
  rw [← ha] at S1
  obtain ⟨c1, c2, c3, c4, c5, c6, c7, c8, c9⟩ := stS_keep u
  rw [← ha] at c1 c2 c3 c4 c5 c6 c7 c8 c9
  have hz : (o1 + x.p) * 68 - o1 * 68 = x.p * 68 := by omega
  have habs : a.bs = x.bs := c2.trans b2
  have habk : a.bk = x.bk.set n { y with wear := y.wear + 1 } := c3.trans b3
  have hau : u.bs = x.bs := b2
  have hst0 := Bk_set_wear hy (y.wear + 1)
  have hy1 : a.bk[n]? = some { y with wear := y.wear + 1 } := by rw [habk, List.getElem?_set, if_pos rfl, if_pos hb]
  have hst1 := Bk_set_torn hy1 true
  have hy2 : (a.bk.set n { y with wear := y.wear + 1, torn := true })[n]? = some { y with wear := y.wear + 1, torn := true } := by rw [List.getElem?_set, if_pos rfl, if_pos (by rw [habk]; simpa using hb)]
  have hst2 := Bk_set_next hy2 0
  have e2 : (a.bk.set n { y with wear := y.wear + 1, torn := true }).set n { y with wear := y.wear + 1, torn := true, next := 0 } = a.bk.set n ⟨0, y.bad, true, y.wear + 1⟩ := by simp [List.set_set]
  simp only [e2] at hst2
  have F1 := fill_walk a.bs (o1 * 68) (x.p * 68) (x.bs.length - o1 * 68) 0 false (by rw [habs]; omega) (by rw [habs]; omega)
  obtain ⟨d, hd⟩ : ∃ d, d = erF a n (o1 * 68) (x.p * 68) 0 ⟨0, y.bad, true, y.wear + 1⟩ := ⟨_, rfl⟩
  have hdl : (over2 a.bs (o1 * 68) (List.replicate (x.p * 68) 0)).length = a.bs.length := over2_len (by rw [List.length_replicate, habs]; omega)
  have hy3 : (a.bk.set n ⟨0, y.bad, true, y.wear + 1⟩)[n]? = some ⟨0, y.bad, true, y.wear + 1⟩ := by rw [List.getElem?_set, if_pos rfl, if_pos (by rw [habk]; simpa using hb)]
  have hst3 := Bk_set_bad hy3 true
  have e3 : (a.bk.set n ⟨0, y.bad, true, y.wear + 1⟩).set n ⟨0, true, true, y.wear + 1⟩ = a.bk.set n ⟨0, true, true, y.wear + 1⟩ := by simp [List.set_set]
  simp only [e3] at hst3
  have S2 := step_walk d (by rw [hd]; show a.cut ≤ _; rw [b5] at c8; omega)
  obtain ⟨g, hg⟩ : ∃ g, g = stS d := ⟨_, rfl⟩
  rw [← hg] at S2
  obtain ⟨g1, g2, g3, g4, g5, g6, g7, g8, g9⟩ := stS_keep d
  rw [← hg] at g1 g2 g3 g4 g5 g6 g7 g8 g9
  have hgbs : g.bs = over2 a.bs (o1 * 68) (List.replicate (x.p * 68) 0) := by rw [g2, hd]; rfl
  have hgbk : g.bk = a.bk.set n ⟨0, y.bad, true, y.wear + 1⟩ := by rw [g3, hd]; rfl
  have hst4 := Bk_set_torn (xs := g.bk) (x := ⟨0, y.bad, true, y.wear + 1⟩) (i := n) (by rw [hgbk]; exact hy3) false
  simp only at hst4
  have F2 := fill_walk g.bs (o1 * 68) (x.p * 68) (x.bs.length - o1 * 68) 255 false (by rw [hgbs, hdl, habs]; omega) (by rw [hgbs, hdl, habs]; omega)
  have hgl : g.bs.length = x.bs.length := by rw [hgbs, hdl, habs]
  have hel : (over2 g.bs (o1 * 68) (List.replicate (x.p * 68) 255)).length = x.bs.length := (over2_len (by rw [List.length_replicate, hgl]; omega)).trans hgl
  have hgk : g.bk.length = x.bk.length := by rw [hgbk, List.length_set, habk, List.length_set]
  have hak : a.bk.length = x.bk.length := by rw [habk, List.length_set]
  have hal : a.bs.length = x.bs.length := by rw [habs]
  have huk : u.bk.length = x.bk.length := by rw [b3, List.length_set]
  have hE1 : stB u = false → erE x n (o1 * 68) (x.p * 68) y = 7 ∧ erS x n (o1 * 68) (x.p * 68) y = a := fun e => by
    unfold erE erS; rw [← hu, if_pos e]; simp only [if_pos e, ha]; exact ⟨trivial, trivial⟩
  have hE2 : stB u = true → x.fail = 0 → erE x n (o1 * 68) (x.p * 68) y = 6 ∧ erS x n (o1 * 68) (x.p * 68) y = { d with bk := a.bk.set n ⟨0, true, true, y.wear + 1⟩ } := fun e e' => by
    unfold erE erS; rw [← hu]; simp only [e, e', Bool.true_eq_false, if_false, if_true, ← ha, ← hd]; exact ⟨trivial, trivial⟩
  have hE3 : stB u = true → ¬ x.fail = 0 → stB d = false → erE x n (o1 * 68) (x.p * 68) y = 7 ∧ erS x n (o1 * 68) (x.p * 68) y = g := fun e e' e'' => by
    unfold erE erS; rw [← hu]; simp only [e, if_neg e', Bool.true_eq_false, if_false, ← ha, ← hd, e'', if_true, ← hg]; exact ⟨trivial, trivial⟩
  have hE4 : stB u = true → ¬ x.fail = 0 → stB d = true → erE x n (o1 * 68) (x.p * 68) y = 0 ∧ erS x n (o1 * 68) (x.p * 68) y = erF g n (o1 * 68) (x.p * 68) 255 ⟨0, y.bad, false, y.wear + 1⟩ := fun e e' e'' => by
    unfold erE erS; rw [← hu]; simp only [e, if_neg e', Bool.true_eq_false, if_false, ← ha, ← hd, e'', ← hg]; exact ⟨trivial, trivial⟩
  have hsd : ndM d = [some ⟨cellsR (rwI .u8) (over2 a.bs (o1 * 68) (List.replicate (x.p * 68) 0)), 5, true⟩, some ⟨cellsR rwBk (a.bk.set n ⟨0, y.bad, true, y.wear + 1⟩), 70, true⟩,
    some ⟨[.i .i64 a.p, .sl (some (0,0)) a.bs.length a.bs.length false, .sl (some (1,0)) a.bk.length a.bk.length false, .b a.off, .i .i64 a.cut, .i .i64 a.fail, .i .i64 a.rd, .i .i64 a.pr, .i .i64 a.er], 66, true⟩] := by
    rw [hd]; simp only [ndM, erF, hdl, List.length_set]
  refine FM.pbody (tb := tb) (fn := Try.f13) rfl rfl ?_
  simp only [argS, Nat.reduceAdd, ndM, List.length_cons, List.length_nil]
  have hfl : (({ x with er := x.er + 1, bk := x.bk.set n { y with wear := y.wear + 1 } } : NS).fail == 0) = decide (x.fail = 0) := by simp [Bool.beq_eq_decide_eq]
  rw [hfl] at B
  simp only [ndM, List.length_set, b1, hau, huk, ho] at B S1
  simp only [ho]
  rw [hsd] at S2
  cases hs1 : stB u with
  | false =>
    obtain ⟨r1, r2⟩ := hE1 hs1
    rw [hs1] at S1
    rw [r1, r2]
    refine jq ?_
    refine jg ?_
    refine jo ?_
    refine je ?_
    iterate 2 refine jq ?_
    refine jg ?_
    refine jo ?_
    refine jB false ?_
    iterate 4 refine jo ?_
    refine jP ?_
    iterate 2 refine jo ?_
    refine jDF ?_
    refine jo ?_
    refine je ?_
    refine WS.pcondF rfl rfl ?_
    refine WS.pskip rfl ?_
    refine jq ?_
    refine jg ?_
    iterate 2 refine jo ?_
    refine jP ?_
    iterate 2 refine jo ?_
    refine jI ?_
    refine jo ?_
    refine je ?_
    refine jq ?_
    refine WS.pblock rfl ?_
    refine jq ?_
    refine jg ?_
    iterate 2 refine jo ?_
    refine jP ?_
    iterate 2 refine jo ?_
    refine je ?_
    refine WS.pcondF rfl rfl ?_
    refine jq ?_
    refine jg ?_
    iterate 2 refine jo ?_
    refine jP ?_
    refine WS.po (tb := tb) rfl rfl rfl rfl (step_R rfl (evR_load rfl rfl rfl rfl (l1))) ?_
    refine jo ?_
    refine je ?_
    refine WS.pcondF rfl rfl ?_
    refine WS.pskip rfl ?_
    refine jq ?_
    refine jg ?_
    iterate 2 refine jo ?_
    iterate 2 refine jP ?_
    refine jo ?_
    refine jW ?_
    refine jo ?_
    iterate 2 refine jP ?_
    refine js ?_
    refine je ?_
    refine jq ?_
    refine jg ?_
    iterate 2 refine jo ?_
    refine jP ?_
    refine WS.po (tb := tb) rfl rfl rfl rfl (step_R rfl (evR_load rfl rfl rfl rfl (cellsR_get hy rfl))) ?_
    refine jW ?_
    refine jo ?_
    refine jP ?_
    refine WS.po0 (tb := tb) rfl rfl rfl rfl (step_H rfl rfl (evH_store rfl rfl rfl rfl rfl (Nat.zero_le _) rfl (by simp [vcells]) (by simp only [Bk_len, vcells, List.length_cons, List.length_nil, cellsI_len, cellsB_len, List.length_set, List.length_replicate, List.length_append, List.length_map, List.length_take, List.length_drop]; omega))) ?_; rw [upd_mem _ rfl]; simp only [vcells, List.set_cons_zero, List.set_cons_succ, hst0, ndM]; (try simp only [setL, List.set_cons_zero, List.set_cons_succ])
    refine je ?_
    refine jq ?_
    refine jg ?_
    refine jo ?_
    refine jc [0,1,2] B (by simp [jOb, ndM]) (by simp [jEb, jOb, jMb, mapL_cellsR, okL_cellsR, ndM]) ?_; rintro _ _ ⟨rfl, rfl⟩ -; simp only [jPg, jMb, ll, Nat.reduceAdd, Nat.reduceLT, Nat.zero_add, if_true, if_false, Nat.reduceSub, reduceIte, mapL_cellsR, Nat.lt_irrefl, Nat.not_lt_zero, Nat.zero_lt_succ, Nat.lt_add_one, ndM]
    refine jo ?_
    refine je ?_
    refine jq ?_
    refine WS.pdraw (tb := tb) (by kernel_rfl) rfl (by kernel_rfl) (by kernel_rfl) ?_
    iterate 2 refine jp ?_
    refine jd ?_
    refine jr ?_
    iterate 3 refine jp ?_
    refine jd ?_
    refine jr ?_
    refine WD.p (tb := tb) rfl rfl rfl rfl (evP_mulV rfl rfl rfl (by assumption) (by simp only [lo]; omega) (by simp only [Am.hi]; omega)) ?_
    refine jw ?_
    refine jp ?_
    refine jw ?_
    iterate 2 refine jp ?_
    refine jd ?_
    refine jr ?_
    refine WD.p (tb := tb) rfl rfl rfl rfl (evP_mulV rfl rfl rfl (by assumption) (by simp only [lo]; omega) (by simp only [Am.hi]; omega)) ?_
    refine jw ?_
    refine WD.pV (tb := tb) rfl rfl rfl rfl (evP_sliceC (a := (o1*68)) (b := ((o1+x.p)*68)) rfl rfl rfl rfl rfl rfl (by first | exact .inl ⟨rfl, rfl⟩ | exact .inr ⟨_, _, rfl, rfl⟩ | exact .inr ⟨_, _, rfl, by first | assumption | omega⟩ | exact .inr ⟨_, _, rfl, (Int.toNat_of_nonneg (by omega)).symm⟩) (by first | exact .inl ⟨rfl, rfl⟩ | exact .inr ⟨_, _, rfl, rfl⟩ | exact .inr ⟨_, _, rfl, by first | assumption | omega⟩ | exact .inr ⟨_, _, rfl, (Int.toNat_of_nonneg (by omega)).symm⟩) (by omega) (by omega) (by omega)) (by simp only [hz, Nat.mul_one, Nat.zero_add]; exact rfl) ?_
    refine jp ?_
    refine WD.fin rfl ?_
    iterate 2 refine jq ?_
    refine jg ?_
    refine jo ?_
    refine jc [0,1,2] S1 (by simp [jOb, ndM]) (by simp [jEb, jOb, jMb, mapL_cellsR, okL_cellsR, ndM]) ?_; rintro _ _ ⟨rfl, rfl⟩ -; simp only [jPg, jMb, ll, Nat.reduceAdd, Nat.reduceLT, Nat.zero_add, if_true, if_false, Nat.reduceSub, reduceIte, mapL_cellsR, Nat.lt_irrefl, Nat.not_lt_zero, Nat.zero_lt_succ, Nat.lt_add_one, ndM]
    refine jB true ?_
    refine je ?_
    refine WS.pcondT rfl rfl ?_
    refine jq ?_
    refine jg ?_
    refine jo ?_
    refine je ?_
    refine WS.pret rfl ⟨.inr rfl, _, rfl, ?_⟩
    exact ⟨_, rfl, rfl, rfl⟩
  | true =>
    rw [hs1] at S1
    by_cases hff : x.fail = 0
    · obtain ⟨r1, r2⟩ := hE2 hs1 hff
      rw [decide_eq_true hff] at B
      rw [r1, r2]
      refine jq ?_
      refine jg ?_
      refine jo ?_
      refine je ?_
      iterate 2 refine jq ?_
      refine jg ?_
      refine jo ?_
      refine jB false ?_
      iterate 4 refine jo ?_
      refine jP ?_
      iterate 2 refine jo ?_
      refine jDF ?_
      refine jo ?_
      refine je ?_
      refine WS.pcondF rfl rfl ?_
      refine WS.pskip rfl ?_
      refine jq ?_
      refine jg ?_
      iterate 2 refine jo ?_
      refine jP ?_
      iterate 2 refine jo ?_
      refine jI ?_
      refine jo ?_
      refine je ?_
      refine jq ?_
      refine WS.pblock rfl ?_
      refine jq ?_
      refine jg ?_
      iterate 2 refine jo ?_
      refine jP ?_
      iterate 2 refine jo ?_
      refine je ?_
      refine WS.pcondF rfl rfl ?_
      refine jq ?_
      refine jg ?_
      iterate 2 refine jo ?_
      refine jP ?_
      refine WS.po (tb := tb) rfl rfl rfl rfl (step_R rfl (evR_load rfl rfl rfl rfl (l1))) ?_
      refine jo ?_
      refine je ?_
      refine WS.pcondF rfl rfl ?_
      refine WS.pskip rfl ?_
      refine jq ?_
      refine jg ?_
      iterate 2 refine jo ?_
      iterate 2 refine jP ?_
      refine jo ?_
      refine jW ?_
      refine jo ?_
      iterate 2 refine jP ?_
      refine js ?_
      refine je ?_
      refine jq ?_
      refine jg ?_
      iterate 2 refine jo ?_
      refine jP ?_
      refine WS.po (tb := tb) rfl rfl rfl rfl (step_R rfl (evR_load rfl rfl rfl rfl (cellsR_get hy rfl))) ?_
      refine jW ?_
      refine jo ?_
      refine jP ?_
      refine WS.po0 (tb := tb) rfl rfl rfl rfl (step_H rfl rfl (evH_store rfl rfl rfl rfl rfl (Nat.zero_le _) rfl (by simp [vcells]) (by simp only [Bk_len, vcells, List.length_cons, List.length_nil, cellsI_len, cellsB_len, List.length_set, List.length_replicate, List.length_append, List.length_map, List.length_take, List.length_drop]; omega))) ?_; rw [upd_mem _ rfl]; simp only [vcells, List.set_cons_zero, List.set_cons_succ, hst0, hst1, hst2, hst3, ndM]; (try simp only [setL, List.set_cons_zero, List.set_cons_succ])
      refine je ?_
      refine jq ?_
      refine jg ?_
      refine jo ?_
      refine jc [0,1,2] B (by simp [jOb, ndM]) (by simp [jEb, jOb, jMb, mapL_cellsR, okL_cellsR, ndM]) ?_; rintro _ _ ⟨rfl, rfl⟩ -; simp only [jPg, jMb, ll, Nat.reduceAdd, Nat.reduceLT, Nat.zero_add, if_true, if_false, Nat.reduceSub, reduceIte, mapL_cellsR, Nat.lt_irrefl, Nat.not_lt_zero, Nat.zero_lt_succ, Nat.lt_add_one, ndM]
      refine jo ?_
      refine je ?_
      refine jq ?_
      refine WS.pdraw (tb := tb) (by kernel_rfl) rfl (by kernel_rfl) (by kernel_rfl) ?_
      iterate 2 refine jp ?_
      refine jd ?_
      refine jr ?_
      iterate 3 refine jp ?_
      refine jd ?_
      refine jr ?_
      refine WD.p (tb := tb) rfl rfl rfl rfl (evP_mulV rfl rfl rfl (by assumption) (by simp only [lo]; omega) (by simp only [Am.hi]; omega)) ?_
      refine jw ?_
      refine jp ?_
      refine jw ?_
      iterate 2 refine jp ?_
      refine jd ?_
      refine jr ?_
      refine WD.p (tb := tb) rfl rfl rfl rfl (evP_mulV rfl rfl rfl (by assumption) (by simp only [lo]; omega) (by simp only [Am.hi]; omega)) ?_
      refine jw ?_
      refine WD.pV (tb := tb) rfl rfl rfl rfl (evP_sliceC (a := (o1*68)) (b := ((o1+x.p)*68)) rfl rfl rfl rfl rfl rfl (by first | exact .inl ⟨rfl, rfl⟩ | exact .inr ⟨_, _, rfl, rfl⟩ | exact .inr ⟨_, _, rfl, by first | assumption | omega⟩ | exact .inr ⟨_, _, rfl, (Int.toNat_of_nonneg (by omega)).symm⟩) (by first | exact .inl ⟨rfl, rfl⟩ | exact .inr ⟨_, _, rfl, rfl⟩ | exact .inr ⟨_, _, rfl, by first | assumption | omega⟩ | exact .inr ⟨_, _, rfl, (Int.toNat_of_nonneg (by omega)).symm⟩) (by omega) (by omega) (by omega)) (by simp only [hz, Nat.mul_one, Nat.zero_add]; exact rfl) ?_
      refine jp ?_
      refine WD.fin rfl ?_
      iterate 2 refine jq ?_
      refine jg ?_
      refine jo ?_
      refine jc [0,1,2] S1 (by simp [jOb, ndM]) (by simp [jEb, jOb, jMb, mapL_cellsR, okL_cellsR, ndM]) ?_; rintro _ _ ⟨rfl, rfl⟩ -; simp only [jPg, jMb, ll, Nat.reduceAdd, Nat.reduceLT, Nat.zero_add, if_true, if_false, Nat.reduceSub, reduceIte, mapL_cellsR, Nat.lt_irrefl, Nat.not_lt_zero, Nat.zero_lt_succ, Nat.lt_add_one, ndM]
      refine jB false ?_
      refine je ?_
      refine WS.pcondF rfl rfl ?_
      refine WS.pskip rfl ?_
      refine jq ?_
      refine jg ?_
      iterate 3 refine jo ?_
      refine jP ?_
      refine WS.po0 (tb := tb) rfl rfl rfl rfl (step_H rfl rfl (evH_store rfl rfl rfl rfl rfl (Nat.zero_le _) rfl (by simp [vcells]) (by simp only [Bk_len, vcells, List.length_cons, List.length_nil, cellsI_len, cellsB_len, List.length_set, List.length_replicate, List.length_append, List.length_map, List.length_take, List.length_drop]; omega))) ?_; rw [upd_mem _ rfl]; simp only [vcells, List.set_cons_zero, List.set_cons_succ, hst0, hst1, hst2, hst3, ndM]; (try simp only [setL, List.set_cons_zero, List.set_cons_succ])
      refine jo ?_
      refine jP ?_
      refine WS.po0 (tb := tb) rfl rfl rfl rfl (step_H rfl rfl (evH_store rfl rfl rfl rfl rfl (Nat.zero_le _) rfl (by simp [vcells]) (by simp only [Bk_len, vcells, List.length_cons, List.length_nil, cellsI_len, cellsB_len, List.length_set, List.length_replicate, List.length_append, List.length_map, List.length_take, List.length_drop]; omega))) ?_; rw [upd_mem _ rfl]; simp only [vcells, List.set_cons_zero, List.set_cons_succ, hst0, hst1, hst2, hst3, ndM]; (try simp only [setL, List.set_cons_zero, List.set_cons_succ])
      refine je ?_
      refine jq ?_
      refine jg ?_
      refine jo ?_
      refine jc [0] F1 (by simp [jOb, ndM]) (by simp [jEb, jOb, jMb, mapL_cellsR, okL_cellsR, ndM]) ?_; rintro _ _ ⟨rfl, rfl⟩ -; simp only [jPg, jMb, ll, Nat.reduceAdd, Nat.reduceLT, Nat.zero_add, if_true, if_false, Nat.reduceSub, reduceIte, mapL_cellsR, Nat.lt_irrefl, Nat.not_lt_zero, Nat.zero_lt_succ, Nat.lt_add_one, ndM]
      refine je ?_
      iterate 2 refine jq ?_
      refine jg ?_
      refine jo ?_
      refine je ?_
      refine WS.pcondT rfl rfl ?_
      refine jq ?_
      refine jg ?_
      iterate 2 refine jo ?_
      refine jP ?_
      refine WS.po0 (tb := tb) rfl rfl rfl rfl (step_H rfl rfl (evH_store rfl rfl rfl rfl rfl (Nat.zero_le _) rfl (by simp [vcells]) (by simp only [Bk_len, vcells, List.length_cons, List.length_nil, cellsI_len, cellsB_len, List.length_set, List.length_replicate, List.length_append, List.length_map, List.length_take, List.length_drop]; omega))) ?_; rw [upd_mem _ rfl]; simp only [vcells, List.set_cons_zero, List.set_cons_succ, hst0, hst1, hst2, hst3, ndM]; (try simp only [setL, List.set_cons_zero, List.set_cons_succ])
      refine je ?_
      refine jq ?_
      refine jg ?_
      refine jo ?_
      refine je ?_
      refine WS.pret rfl ⟨.inr rfl, _, rfl, ?_⟩
      exact ⟨_, rfl, rfl, by rw [hd]; simp only [ndM, erF, hdl, List.length_set]⟩
    · rw [decide_eq_false hff] at B
      cases hs2 : stB d with
      | false =>
        obtain ⟨r1, r2⟩ := hE3 hs1 hff hs2
        rw [hs2] at S2
        rw [r1, r2]
        refine jq ?_
        refine jg ?_
        refine jo ?_
        refine je ?_
        iterate 2 refine jq ?_
        refine jg ?_
        refine jo ?_
        refine jB false ?_
        iterate 4 refine jo ?_
        refine jP ?_
        iterate 2 refine jo ?_
        refine jDF ?_
        refine jo ?_
        refine je ?_
        refine WS.pcondF rfl rfl ?_
        refine WS.pskip rfl ?_
        refine jq ?_
        refine jg ?_
        iterate 2 refine jo ?_
        refine jP ?_
        iterate 2 refine jo ?_
        refine jI ?_
        refine jo ?_
        refine je ?_
        refine jq ?_
        refine WS.pblock rfl ?_
        refine jq ?_
        refine jg ?_
        iterate 2 refine jo ?_
        refine jP ?_
        iterate 2 refine jo ?_
        refine je ?_
        refine WS.pcondF rfl rfl ?_
        refine jq ?_
        refine jg ?_
        iterate 2 refine jo ?_
        refine jP ?_
        refine WS.po (tb := tb) rfl rfl rfl rfl (step_R rfl (evR_load rfl rfl rfl rfl (l1))) ?_
        refine jo ?_
        refine je ?_
        refine WS.pcondF rfl rfl ?_
        refine WS.pskip rfl ?_
        refine jq ?_
        refine jg ?_
        iterate 2 refine jo ?_
        iterate 2 refine jP ?_
        refine jo ?_
        refine jW ?_
        refine jo ?_
        iterate 2 refine jP ?_
        refine js ?_
        refine je ?_
        refine jq ?_
        refine jg ?_
        iterate 2 refine jo ?_
        refine jP ?_
        refine WS.po (tb := tb) rfl rfl rfl rfl (step_R rfl (evR_load rfl rfl rfl rfl (cellsR_get hy rfl))) ?_
        refine jW ?_
        refine jo ?_
        refine jP ?_
        refine WS.po0 (tb := tb) rfl rfl rfl rfl (step_H rfl rfl (evH_store rfl rfl rfl rfl rfl (Nat.zero_le _) rfl (by simp [vcells]) (by simp only [Bk_len, vcells, List.length_cons, List.length_nil, cellsI_len, cellsB_len, List.length_set, List.length_replicate, List.length_append, List.length_map, List.length_take, List.length_drop]; omega))) ?_; rw [upd_mem _ rfl]; simp only [vcells, List.set_cons_zero, List.set_cons_succ, hst0, hst1, hst2, ndM]; (try simp only [setL, List.set_cons_zero, List.set_cons_succ])
        refine je ?_
        refine jq ?_
        refine jg ?_
        refine jo ?_
        refine jc [0,1,2] B (by simp [jOb, ndM]) (by simp [jEb, jOb, jMb, mapL_cellsR, okL_cellsR, ndM]) ?_; rintro _ _ ⟨rfl, rfl⟩ -; simp only [jPg, jMb, ll, Nat.reduceAdd, Nat.reduceLT, Nat.zero_add, if_true, if_false, Nat.reduceSub, reduceIte, mapL_cellsR, Nat.lt_irrefl, Nat.not_lt_zero, Nat.zero_lt_succ, Nat.lt_add_one, ndM]
        refine jo ?_
        refine je ?_
        refine jq ?_
        refine WS.pdraw (tb := tb) (by kernel_rfl) rfl (by kernel_rfl) (by kernel_rfl) ?_
        iterate 2 refine jp ?_
        refine jd ?_
        refine jr ?_
        iterate 3 refine jp ?_
        refine jd ?_
        refine jr ?_
        refine WD.p (tb := tb) rfl rfl rfl rfl (evP_mulV rfl rfl rfl (by assumption) (by simp only [lo]; omega) (by simp only [Am.hi]; omega)) ?_
        refine jw ?_
        refine jp ?_
        refine jw ?_
        iterate 2 refine jp ?_
        refine jd ?_
        refine jr ?_
        refine WD.p (tb := tb) rfl rfl rfl rfl (evP_mulV rfl rfl rfl (by assumption) (by simp only [lo]; omega) (by simp only [Am.hi]; omega)) ?_
        refine jw ?_
        refine WD.pV (tb := tb) rfl rfl rfl rfl (evP_sliceC (a := (o1*68)) (b := ((o1+x.p)*68)) rfl rfl rfl rfl rfl rfl (by first | exact .inl ⟨rfl, rfl⟩ | exact .inr ⟨_, _, rfl, rfl⟩ | exact .inr ⟨_, _, rfl, by first | assumption | omega⟩ | exact .inr ⟨_, _, rfl, (Int.toNat_of_nonneg (by omega)).symm⟩) (by first | exact .inl ⟨rfl, rfl⟩ | exact .inr ⟨_, _, rfl, rfl⟩ | exact .inr ⟨_, _, rfl, by first | assumption | omega⟩ | exact .inr ⟨_, _, rfl, (Int.toNat_of_nonneg (by omega)).symm⟩) (by omega) (by omega) (by omega)) (by simp only [hz, Nat.mul_one, Nat.zero_add]; exact rfl) ?_
        refine jp ?_
        refine WD.fin rfl ?_
        iterate 2 refine jq ?_
        refine jg ?_
        refine jo ?_
        refine jc [0,1,2] S1 (by simp [jOb, ndM]) (by simp [jEb, jOb, jMb, mapL_cellsR, okL_cellsR, ndM]) ?_; rintro _ _ ⟨rfl, rfl⟩ -; simp only [jPg, jMb, ll, Nat.reduceAdd, Nat.reduceLT, Nat.zero_add, if_true, if_false, Nat.reduceSub, reduceIte, mapL_cellsR, Nat.lt_irrefl, Nat.not_lt_zero, Nat.zero_lt_succ, Nat.lt_add_one, ndM]
        refine jB false ?_
        refine je ?_
        refine WS.pcondF rfl rfl ?_
        refine WS.pskip rfl ?_
        refine jq ?_
        refine jg ?_
        iterate 3 refine jo ?_
        refine jP ?_
        refine WS.po0 (tb := tb) rfl rfl rfl rfl (step_H rfl rfl (evH_store rfl rfl rfl rfl rfl (Nat.zero_le _) rfl (by simp [vcells]) (by simp only [Bk_len, vcells, List.length_cons, List.length_nil, cellsI_len, cellsB_len, List.length_set, List.length_replicate, List.length_append, List.length_map, List.length_take, List.length_drop]; omega))) ?_; rw [upd_mem _ rfl]; simp only [vcells, List.set_cons_zero, List.set_cons_succ, hst0, hst1, hst2, ndM]; (try simp only [setL, List.set_cons_zero, List.set_cons_succ])
        refine jo ?_
        refine jP ?_
        refine WS.po0 (tb := tb) rfl rfl rfl rfl (step_H rfl rfl (evH_store rfl rfl rfl rfl rfl (Nat.zero_le _) rfl (by simp [vcells]) (by simp only [Bk_len, vcells, List.length_cons, List.length_nil, cellsI_len, cellsB_len, List.length_set, List.length_replicate, List.length_append, List.length_map, List.length_take, List.length_drop]; omega))) ?_; rw [upd_mem _ rfl]; simp only [vcells, List.set_cons_zero, List.set_cons_succ, hst0, hst1, hst2, ndM]; (try simp only [setL, List.set_cons_zero, List.set_cons_succ])
        refine je ?_
        refine jq ?_
        refine jg ?_
        refine jo ?_
        refine jc [0] F1 (by simp [jOb, ndM]) (by simp [jEb, jOb, jMb, mapL_cellsR, okL_cellsR, ndM]) ?_; rintro _ _ ⟨rfl, rfl⟩ -; simp only [jPg, jMb, ll, Nat.reduceAdd, Nat.reduceLT, Nat.zero_add, if_true, if_false, Nat.reduceSub, reduceIte, mapL_cellsR, Nat.lt_irrefl, Nat.not_lt_zero, Nat.zero_lt_succ, Nat.lt_add_one, ndM]
        refine je ?_
        iterate 2 refine jq ?_
        refine jg ?_
        refine jo ?_
        refine je ?_
        refine WS.pcondF rfl rfl ?_
        refine WS.pskip rfl ?_
        iterate 2 refine jq ?_
        refine jg ?_
        refine jo ?_
        refine jc [0,1,2] S2 (by simp [jOb, ndM]) (by simp [jEb, jOb, jMb, mapL_cellsR, okL_cellsR, ndM]) ?_; rintro _ _ ⟨rfl, rfl⟩ -; simp only [jPg, jMb, ll, Nat.reduceAdd, Nat.reduceLT, Nat.zero_add, if_true, if_false, Nat.reduceSub, reduceIte, mapL_cellsR, Nat.lt_irrefl, Nat.not_lt_zero, Nat.zero_lt_succ, Nat.lt_add_one, ndM]
        refine jB true ?_
        refine je ?_
        refine WS.pcondT rfl rfl ?_
        refine jq ?_
        refine jg ?_
        refine jo ?_
        refine je ?_
        refine WS.pret rfl ⟨.inr rfl, _, rfl, ?_⟩
        exact ⟨_, rfl, rfl, rfl⟩
      | true =>
        obtain ⟨r1, r2⟩ := hE4 hs1 hff hs2
        rw [hs2] at S2
        rw [r1, r2]
        refine jq ?_
        refine jg ?_
        refine jo ?_
        refine je ?_
        iterate 2 refine jq ?_
        refine jg ?_
        refine jo ?_
        refine jB false ?_
        iterate 4 refine jo ?_
        refine jP ?_
        iterate 2 refine jo ?_
        refine jDF ?_
        refine jo ?_
        refine je ?_
        refine WS.pcondF rfl rfl ?_
        refine WS.pskip rfl ?_
        refine jq ?_
        refine jg ?_
        iterate 2 refine jo ?_
        refine jP ?_
        iterate 2 refine jo ?_
        refine jI ?_
        refine jo ?_
        refine je ?_
        refine jq ?_
        refine WS.pblock rfl ?_
        refine jq ?_
        refine jg ?_
        iterate 2 refine jo ?_
        refine jP ?_
        iterate 2 refine jo ?_
        refine je ?_
        refine WS.pcondF rfl rfl ?_
        refine jq ?_
        refine jg ?_
        iterate 2 refine jo ?_
        refine jP ?_
        refine WS.po (tb := tb) rfl rfl rfl rfl (step_R rfl (evR_load rfl rfl rfl rfl (l1))) ?_
        refine jo ?_
        refine je ?_
        refine WS.pcondF rfl rfl ?_
        refine WS.pskip rfl ?_
        refine jq ?_
        refine jg ?_
        iterate 2 refine jo ?_
        iterate 2 refine jP ?_
        refine jo ?_
        refine jW ?_
        refine jo ?_
        iterate 2 refine jP ?_
        refine js ?_
        refine je ?_
        refine jq ?_
        refine jg ?_
        iterate 2 refine jo ?_
        refine jP ?_
        refine WS.po (tb := tb) rfl rfl rfl rfl (step_R rfl (evR_load rfl rfl rfl rfl (cellsR_get hy rfl))) ?_
        refine jW ?_
        refine jo ?_
        refine jP ?_
        refine WS.po0 (tb := tb) rfl rfl rfl rfl (step_H rfl rfl (evH_store rfl rfl rfl rfl rfl (Nat.zero_le _) rfl (by simp [vcells]) (by simp only [Bk_len, vcells, List.length_cons, List.length_nil, cellsI_len, cellsB_len, List.length_set, List.length_replicate, List.length_append, List.length_map, List.length_take, List.length_drop]; omega))) ?_; rw [upd_mem _ rfl]; simp only [vcells, List.set_cons_zero, List.set_cons_succ, hst0, hst1, hst2, hst4, ndM]; (try simp only [setL, List.set_cons_zero, List.set_cons_succ])
        refine je ?_
        refine jq ?_
        refine jg ?_
        refine jo ?_
        refine jc [0,1,2] B (by simp [jOb, ndM]) (by simp [jEb, jOb, jMb, mapL_cellsR, okL_cellsR, ndM]) ?_; rintro _ _ ⟨rfl, rfl⟩ -; simp only [jPg, jMb, ll, Nat.reduceAdd, Nat.reduceLT, Nat.zero_add, if_true, if_false, Nat.reduceSub, reduceIte, mapL_cellsR, Nat.lt_irrefl, Nat.not_lt_zero, Nat.zero_lt_succ, Nat.lt_add_one, ndM]
        refine jo ?_
        refine je ?_
        refine jq ?_
        refine WS.pdraw (tb := tb) (by kernel_rfl) rfl (by kernel_rfl) (by kernel_rfl) ?_
        iterate 2 refine jp ?_
        refine jd ?_
        refine jr ?_
        iterate 3 refine jp ?_
        refine jd ?_
        refine jr ?_
        refine WD.p (tb := tb) rfl rfl rfl rfl (evP_mulV rfl rfl rfl (by assumption) (by simp only [lo]; omega) (by simp only [Am.hi]; omega)) ?_
        refine jw ?_
        refine jp ?_
        refine jw ?_
        iterate 2 refine jp ?_
        refine jd ?_
        refine jr ?_
        refine WD.p (tb := tb) rfl rfl rfl rfl (evP_mulV rfl rfl rfl (by assumption) (by simp only [lo]; omega) (by simp only [Am.hi]; omega)) ?_
        refine jw ?_
        refine WD.pV (tb := tb) rfl rfl rfl rfl (evP_sliceC (a := (o1*68)) (b := ((o1+x.p)*68)) rfl rfl rfl rfl rfl rfl (by first | exact .inl ⟨rfl, rfl⟩ | exact .inr ⟨_, _, rfl, rfl⟩ | exact .inr ⟨_, _, rfl, by first | assumption | omega⟩ | exact .inr ⟨_, _, rfl, (Int.toNat_of_nonneg (by omega)).symm⟩) (by first | exact .inl ⟨rfl, rfl⟩ | exact .inr ⟨_, _, rfl, rfl⟩ | exact .inr ⟨_, _, rfl, by first | assumption | omega⟩ | exact .inr ⟨_, _, rfl, (Int.toNat_of_nonneg (by omega)).symm⟩) (by omega) (by omega) (by omega)) (by simp only [hz, Nat.mul_one, Nat.zero_add]; exact rfl) ?_
        refine jp ?_
        refine WD.fin rfl ?_
        iterate 2 refine jq ?_
        refine jg ?_
        refine jo ?_
        refine jc [0,1,2] S1 (by simp [jOb, ndM]) (by simp [jEb, jOb, jMb, mapL_cellsR, okL_cellsR, ndM]) ?_; rintro _ _ ⟨rfl, rfl⟩ -; simp only [jPg, jMb, ll, Nat.reduceAdd, Nat.reduceLT, Nat.zero_add, if_true, if_false, Nat.reduceSub, reduceIte, mapL_cellsR, Nat.lt_irrefl, Nat.not_lt_zero, Nat.zero_lt_succ, Nat.lt_add_one, ndM]
        refine jB false ?_
        refine je ?_
        refine WS.pcondF rfl rfl ?_
        refine WS.pskip rfl ?_
        refine jq ?_
        refine jg ?_
        iterate 3 refine jo ?_
        refine jP ?_
        refine WS.po0 (tb := tb) rfl rfl rfl rfl (step_H rfl rfl (evH_store rfl rfl rfl rfl rfl (Nat.zero_le _) rfl (by simp [vcells]) (by simp only [Bk_len, vcells, List.length_cons, List.length_nil, cellsI_len, cellsB_len, List.length_set, List.length_replicate, List.length_append, List.length_map, List.length_take, List.length_drop]; omega))) ?_; rw [upd_mem _ rfl]; simp only [vcells, List.set_cons_zero, List.set_cons_succ, hst0, hst1, hst2, hst4, ndM]; (try simp only [setL, List.set_cons_zero, List.set_cons_succ])
        refine jo ?_
        refine jP ?_
        refine WS.po0 (tb := tb) rfl rfl rfl rfl (step_H rfl rfl (evH_store rfl rfl rfl rfl rfl (Nat.zero_le _) rfl (by simp [vcells]) (by simp only [Bk_len, vcells, List.length_cons, List.length_nil, cellsI_len, cellsB_len, List.length_set, List.length_replicate, List.length_append, List.length_map, List.length_take, List.length_drop]; omega))) ?_; rw [upd_mem _ rfl]; simp only [vcells, List.set_cons_zero, List.set_cons_succ, hst0, hst1, hst2, hst4, ndM]; (try simp only [setL, List.set_cons_zero, List.set_cons_succ])
        refine je ?_
        refine jq ?_
        refine jg ?_
        refine jo ?_
        refine jc [0] F1 (by simp [jOb, ndM]) (by simp [jEb, jOb, jMb, mapL_cellsR, okL_cellsR, ndM]) ?_; rintro _ _ ⟨rfl, rfl⟩ -; simp only [jPg, jMb, ll, Nat.reduceAdd, Nat.reduceLT, Nat.zero_add, if_true, if_false, Nat.reduceSub, reduceIte, mapL_cellsR, Nat.lt_irrefl, Nat.not_lt_zero, Nat.zero_lt_succ, Nat.lt_add_one, ndM]
        refine je ?_
        iterate 2 refine jq ?_
        refine jg ?_
        refine jo ?_
        refine je ?_
        refine WS.pcondF rfl rfl ?_
        refine WS.pskip rfl ?_
        iterate 2 refine jq ?_
        refine jg ?_
        refine jo ?_
        refine jc [0,1,2] S2 (by simp [jOb, ndM]) (by simp [jEb, jOb, jMb, mapL_cellsR, okL_cellsR, ndM]) ?_; rintro _ _ ⟨rfl, rfl⟩ -; simp only [jPg, jMb, ll, Nat.reduceAdd, Nat.reduceLT, Nat.zero_add, if_true, if_false, Nat.reduceSub, reduceIte, mapL_cellsR, Nat.lt_irrefl, Nat.not_lt_zero, Nat.zero_lt_succ, Nat.lt_add_one, ndM]
        refine jB false ?_
        refine je ?_
        refine WS.pcondF rfl rfl ?_
        refine WS.pskip rfl ?_
        refine jq ?_
        refine jg ?_
        iterate 2 refine jo ?_
        refine jP ?_
        refine WS.po0 (tb := tb) rfl rfl rfl rfl (step_H rfl rfl (evH_store rfl rfl rfl rfl rfl (Nat.zero_le _) rfl (by simp [vcells]) (by simp only [Bk_len, vcells, List.length_cons, List.length_nil, cellsI_len, cellsB_len, List.length_set, List.length_replicate, List.length_append, List.length_map, List.length_take, List.length_drop]; omega))) ?_; rw [upd_mem _ rfl]; simp only [vcells, List.set_cons_zero, List.set_cons_succ, hst0, hst1, hst2, hst4, ndM]; (try simp only [setL, List.set_cons_zero, List.set_cons_succ])
        refine je ?_
        refine jq ?_
        refine jg ?_
        refine jo ?_
        refine jc [0] F2 (by simp [jOb, ndM]) (by simp [jEb, jOb, jMb, mapL_cellsR, okL_cellsR, ndM]) ?_; rintro _ _ ⟨rfl, rfl⟩ -; simp only [jPg, jMb, ll, Nat.reduceAdd, Nat.reduceLT, Nat.zero_add, if_true, if_false, Nat.reduceSub, reduceIte, mapL_cellsR, Nat.lt_irrefl, Nat.not_lt_zero, Nat.zero_lt_succ, Nat.lt_add_one, ndM]
        refine je ?_
        refine jq ?_
        refine jg ?_
        refine jo ?_
        refine je ?_
        refine WS.pret rfl ⟨.inr rfl, _, rfl, ?_⟩
        exact ⟨_, rfl, rfl, by simp only [ndM, erF, hel, hgl, List.length_set]⟩
end Go.Proofs.Ytmkolibmadbenaa.Am

