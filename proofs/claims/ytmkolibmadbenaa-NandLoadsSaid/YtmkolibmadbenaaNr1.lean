/- Functions of the flash, walked. Conditions: those of each theorem. -/
import Derived.Test.YtmkolibmadbenaaNd4
namespace Go.Proofs.Ytmkolibmadbenaa.Am
open Go.Proofs
set_option maxRecDepth 1000000
set_option maxHeartbeats 4000000
set_option linter.unusedSimpArgs false
set_option linter.unusedVariables false
/-- The document's own flash, as the same thing. -/
def rfM (x : NS) : List (Option Blk) := [some ⟨cellsR (rwI .u8) x.bs, 5, true⟩, some ⟨cellsR rwB (x.bk.map Bk.bad), 4, true⟩, some ⟨cellsR rwB (x.bk.map Bk.torn), 4, true⟩, some ⟨cellsR (rwI .i64) (x.bk.map Bk.next), 3, true⟩,
  some ⟨[.i .i64 x.bk.length, .i .i64 x.p, .sl (some (0,0)) x.bs.length x.bs.length false, .sl (some (1,0)) x.bk.length x.bk.length false, .sl (some (2,0)) x.bk.length x.bk.length false, .sl (some (3,0)) x.bk.length x.bk.length false, .i .i64 x.cut, .i .i64 x.fail, .b (!x.off), .i .i64 x.rd, .i .i64 x.pr, .i .i64 x.er], 48, true⟩]
theorem map_get {α β : Type} {l : List α} {b : Nat} {y : α} (f : α → β) (hy : l[b]? = some y) : (l.map f)[b]? = some (f y) := by rw [List.getElem?_map, hy]; rfl
theorem map_set_of {α β : Type} {l : List α} {b : Nat} {y : α} (f : α → β) (hy : l[b]? = some y) (z : α) : (l.set b z).map f = (l.map f).set b (f z) := List.map_set
theorem map_set_id {α β : Type} {l : List α} {b : Nat} {y : α} (f : α → β) (hy : l[b]? = some y) {z : α} (hz : f z = f y) : (l.set b z).map f = l.map f := by
  rw [List.map_set, hz]
  apply List.ext_getElem?
  intro i
  rw [List.getElem?_set]
  split
  · next h =>
    subst h
    rw [List.length_map]
    have hb := (List.getElem?_eq_some_iff.1 hy).1
    rw [if_pos hb, List.getElem?_map, hy]; rfl
  · rfl
theorem rstep_walk (x : NS) (ho : x.off = false) (hc : x.cut ≤ 9223372036854775807) : FM Try.prog 39 [.p (some (4,0))] (rfM x) (fun v M' => v = .b (stB x) ∧ M' = rfM (stS x)) := by
  obtain ⟨p, bs, bk, off, cut, fail, rd, pr, er⟩ := x
  simp only at hc ho
  subst ho
  refine FM.pbody (tb := tb) (fn := Try.f39) rfl rfl ?_
  simp only [argS, Nat.reduceAdd, rfM, List.length_cons, List.length_nil, Bool.not_false]
  by_cases h0 : cut = 0
  · refine WS.pseq rfl ?_
    refine jg ?_
    refine jo ?_
    refine je ?_
    iterate 2 refine jq ?_
    refine jg ?_
    iterate 2 refine jo ?_
    refine jP ?_
    refine jo ?_
    refine jDT ?_
    refine je ?_
    refine WS.pcondT rfl rfl ?_
    refine jq ?_
    refine jg ?_
    iterate 2 refine jo ?_
    refine jP ?_
    refine js ?_
    refine je ?_
    refine jq ?_
    refine jg ?_
    refine jo ?_
    refine je ?_
    refine WS.pret rfl ⟨.inr rfl, _, rfl, ?_⟩
    exact ⟨_, rfl, by simp [stB, h0], by simp [stS, h0]⟩
  · by_cases h1 : 0 < cut
    · refine WS.pseq rfl ?_
      refine jg ?_
      refine jo ?_
      refine je ?_
      iterate 2 refine jq ?_
      refine jg ?_
      iterate 2 refine jo ?_
      refine jP ?_
      refine jo ?_
      refine jDF ?_
      refine je ?_
      refine WS.pcondF rfl rfl ?_
      refine WS.pskip rfl ?_
      iterate 2 refine jq ?_
      refine jg ?_
      iterate 2 refine jo ?_
      refine jP ?_
      refine jo ?_
      refine jDT ?_
      refine je ?_
      refine WS.pcondT rfl rfl ?_
      refine jg ?_
      iterate 2 refine jo ?_
      refine jP ?_
      refine jo ?_
      refine jW ?_
      refine jo ?_
      refine jP ?_
      refine js ?_
      refine je ?_
      refine jq ?_
      refine jg ?_
      refine jo ?_
      refine je ?_
      refine WS.pret rfl ⟨.inr rfl, _, rfl, ?_⟩
      exact ⟨_, rfl, by simp [stB, h0], by simp [stS, h0, h1]⟩
    · refine WS.pseq rfl ?_
      refine jg ?_
      refine jo ?_
      refine je ?_
      iterate 2 refine jq ?_
      refine jg ?_
      iterate 2 refine jo ?_
      refine jP ?_
      refine jo ?_
      refine jDF ?_
      refine je ?_
      refine WS.pcondF rfl rfl ?_
      refine WS.pskip rfl ?_
      iterate 2 refine jq ?_
      refine jg ?_
      iterate 2 refine jo ?_
      refine jP ?_
      refine jo ?_
      refine jDF ?_
      refine je ?_
      refine WS.pcondF rfl rfl ?_
      refine WS.pskip rfl ?_
      refine jq ?_
      refine jg ?_
      refine jo ?_
      refine je ?_
      refine WS.pret rfl ⟨.inr rfl, _, rfl, ?_⟩
      exact ⟨_, rfl, by simp [stB, h0], by simp [stS, h0, h1]⟩
theorem rfails_walk (x : NS) (hc : x.fail ≤ 9223372036854775807) (hc1 : -1 ≤ x.fail) : FM Try.prog 38 [.p (some (4,0))] (rfM x) (fun v M' => v = .b (x.fail == 0) ∧ M' = rfM (bgS x)) := by
  obtain ⟨p, bs, bk, off, cut, fail, rd, pr, er⟩ := x
  simp only at hc hc1
  refine FM.pbody (tb := tb) (fn := Try.f38) rfl rfl ?_
  simp only [argS, Nat.reduceAdd, rfM, List.length_cons, List.length_nil]
  by_cases h0 : fail = 0
  · refine WS.pseq rfl ?_
    refine jg ?_
    refine jo ?_
    refine je ?_
    iterate 2 refine jq ?_
    refine jg ?_
    iterate 2 refine jo ?_
    refine jP ?_
    refine jo ?_
    refine jDT ?_
    refine je ?_
    refine WS.pcondT rfl rfl ?_
    refine jq ?_
    refine jg ?_
    iterate 2 refine jo ?_
    refine jP ?_
    refine js ?_
    refine je ?_
    refine jq ?_
    refine jg ?_
    refine jo ?_
    refine je ?_
    refine WS.pret rfl ⟨.inr rfl, _, rfl, ?_⟩
    exact ⟨_, rfl, by simp [h0], by simp [bgS, h0]⟩
  · by_cases h1 : 0 < fail
    · refine WS.pseq rfl ?_
      refine jg ?_
      refine jo ?_
      refine je ?_
      iterate 2 refine jq ?_
      refine jg ?_
      iterate 2 refine jo ?_
      refine jP ?_
      refine jo ?_
      refine jDF ?_
      refine je ?_
      refine WS.pcondF rfl rfl ?_
      refine WS.pskip rfl ?_
      iterate 2 refine jq ?_
      refine jg ?_
      iterate 2 refine jo ?_
      refine jP ?_
      refine jo ?_
      refine jDT ?_
      refine je ?_
      refine WS.pcondT rfl rfl ?_
      refine jg ?_
      iterate 2 refine jo ?_
      refine jP ?_
      refine jo ?_
      refine jW ?_
      refine jo ?_
      refine jP ?_
      refine js ?_
      refine je ?_
      refine jq ?_
      refine jg ?_
      refine jo ?_
      refine je ?_
      refine WS.pret rfl ⟨.inr rfl, _, rfl, ?_⟩
      exact ⟨_, rfl, by simp [h0], by simp [bgS, show 0 ≤ fail by omega]⟩
    · refine WS.pseq rfl ?_
      refine jg ?_
      refine jo ?_
      refine je ?_
      iterate 2 refine jq ?_
      refine jg ?_
      iterate 2 refine jo ?_
      refine jP ?_
      refine jo ?_
      refine jDF ?_
      refine je ?_
      refine WS.pcondF rfl rfl ?_
      refine WS.pskip rfl ?_
      iterate 2 refine jq ?_
      refine jg ?_
      iterate 2 refine jo ?_
      refine jP ?_
      refine jo ?_
      refine jDF ?_
      refine je ?_
      refine WS.pcondF rfl rfl ?_
      refine WS.pskip rfl ?_
      refine jq ?_
      refine jg ?_
      refine jo ?_
      refine je ?_
      refine WS.pret rfl ⟨.inr rfl, _, rfl, ?_⟩
      exact ⟨_, rfl, by simp [h0], by simp [bgS, show ¬ 0 ≤ fail by omega]⟩
theorem rfill_walk (x : NS) (n o1 : Nat) (y : Bk) (v : Int) (hv : v = 0 ∨ v = 255) (hy : x.bk[n]? = some y) (hm : x.bk.length ≤ 1000) (h1 : (n : Int) * ((x.p * 68 : Nat) : Int) = ((o1 * 68 : Nat) : Int)) (h2 : ((n : Int) + 1) * ((x.p * 68 : Nat) : Int) = (((o1 + x.p) * 68 : Nat) : Int)) (h3 : (o1 + x.p) * 68 ≤ x.bs.length) (hbs : x.bs.length ≤ 1000000) :
    FM Try.prog 40 [.p (some (4,0)), .i .i64 n, .i .u8 v] (rfM x) (fun u M' => u = .tup [] ∧ M' = rfM (erF x n (o1 * 68) (x.p * 68) v { y with next := 0, torn := decide (v = 0) })) := by
  have hb := (List.getElem?_eq_some_iff.1 hy).1
  have hp : (x.p : Int) * 68 = ((x.p * 68 : Nat) : Int) := by omega
  refine FM.pbody (tb := tb) (fn := Try.f40) rfl rfl ?_
  simp only [argS, Nat.reduceAdd, rfM, List.length_cons, List.length_nil]
  refine jq ?_
  refine jg ?_
  iterate 2 refine jo ?_
  refine jP ?_
  refine jo ?_
  refine WS.po (tb := tb) rfl rfl rfl rfl (step_P (evP_mulV rfl rfl rfl (by assumption) (by simp only [lo]; omega) (by simp only [Am.hi]; omega))) ?_
  refine jo ?_
  refine je ?_
  iterate 2 refine jq ?_
  refine jg ?_
  iterate 2 refine jo ?_
  refine WS.po (tb := tb) rfl rfl rfl rfl (step_P (evP_mulV rfl rfl rfl (by assumption) (by simp only [lo]; omega) (by simp only [Am.hi]; omega))) ?_
  refine jo ?_
  refine je ?_
  refine WS.pblock rfl ?_
  refine WS.ploopI (σ := Nat) (τ := Unit) (fun i => [(0, .p (some (4,0))), (1, .i .i64 n), (2, .i .u8 v), (6, .i .i64 (x.p * 68 : Nat)), (7, .i .i64 (o1 * 68 + i : Nat))]) (fun i => rfM { x with bs := over2 x.bs (o1 * 68) (List.replicate i v) }) (fun i => i ≤ x.p * 68) (fun i => x.p * 68 - i)
    (fun _ => [(0, .p (some (4,0))), (1, .i .i64 n), (2, .i .u8 v)]) (fun _ => rfM { x with bs := over2 x.bs (o1 * 68) (List.replicate (x.p * 68) v) }) (fun _ => True) 0 [0,1,2,3,4] 0 rfl (Nat.zero_le _) (jSb (by simp [jVb, jOb, jMb, mapL_cellsR, okL_cellsR, rfM, List.replicate_zero, over2_nil, Nat.add_zero]) (by simp only [jSl, jOb, jMb, Nat.reduceAdd, Nat.reduceLT, rfM, List.replicate_zero, over2_nil, Nat.add_zero] <;> exact jClo)) rfl ?_ ?_
  · intro i hi
    have hl : (over2 x.bs (o1 * 68) (List.replicate i v)).length = x.bs.length := over2_len (by rw [List.length_replicate]; omega)
    simp only [rfM, hl]
    by_cases hlt : i < x.p * 68
    · have hs : (over2 x.bs (o1 * 68) (List.replicate i v)).set (o1 * 68 + i) v = over2 x.bs (o1 * 68) (List.replicate (i + 1) v) := by
        have := over2_set (xs := x.bs) (ys := List.replicate (x.p * 68) v) (o := o1 * 68) (i := i) (y := v) (by rw [List.getElem?_replicate, if_pos hlt]) (by rw [List.length_replicate]; omega)
        rw [List.take_replicate, List.take_replicate, Nat.min_eq_left (by omega), Nat.min_eq_left (by omega)] at this
        exact this
      have hl2 : (over2 x.bs (o1 * 68) (List.replicate (i + 1) v)).length = x.bs.length := over2_len (by rw [List.length_replicate]; omega)
      have hst := (cellsI_set (k := .u8) (xs := over2 x.bs (o1 * 68) (List.replicate i v)) (x := v) (i := o1 * 68 + i) (by omega)).trans (congrArg _ hs)
      have ei : ((o1 * 68 + i : Nat) : Int) + 1 = ((o1 * 68 + (i + 1) : Nat) : Int) := by omega
      iterate 2 refine jq ?_
      refine jg ?_
      iterate 2 refine jo ?_
      refine jW ?_
      refine jo ?_
      refine WS.po (tb := tb) rfl rfl rfl rfl (step_P (evP_mulV rfl rfl rfl (by assumption) (by simp only [lo]; omega) (by simp only [Am.hi]; omega))) ?_
      refine jDT ?_
      refine je ?_
      refine WS.pcondT rfl rfl ?_
      refine WS.pskip rfl ?_
      refine jq ?_
      refine WS.pblock rfl ?_
      refine jg ?_
      iterate 2 refine jo ?_
      refine jP ?_
      iterate 3 refine jo ?_
      refine jI ?_
      refine WS.po0 (tb := tb) rfl rfl rfl rfl (step_H rfl rfl (evH_store rfl rfl rfl rfl rfl (Nat.zero_le _) rfl (by simp [vcells]) (by simp only [Bk_len, vcells, List.length_cons, List.length_nil, cellsI_len, cellsB_len, List.length_set, List.length_replicate, List.length_append, List.length_map, List.length_take, List.length_drop, hl]; omega))) ?_; rw [upd_mem _ rfl]; simp only [vcells, List.set_cons_zero, List.set_cons_succ, hst]; (try simp only [setL, List.set_cons_zero, List.set_cons_succ])
      refine je ?_
      refine jg ?_
      refine jo ?_
      refine WS.po (tb := tb) rfl rfl rfl rfl (step_P (evP_addV rfl rfl rfl (by assumption) (by simp only [lo]; omega) (by simp only [Am.hi]; omega))) ?_
      refine jo ?_
      refine je ?_
      refine WS.nil ?_
      exact ⟨i + 1, by omega, by omega, (jSn [0,1,2,3,4] (by simp [jVb, jOb, jMb, mapL_cellsR, okL_cellsR, rfM, hl2, ei]) (by simp only [jSl, jOb, jMb, Nat.reduceAdd, Nat.reduceLT, rfM, hl2, ei] <;> exact jClo))⟩
    · obtain rfl : i = x.p * 68 := by omega
      iterate 2 refine jq ?_
      refine jg ?_
      iterate 2 refine jo ?_
      refine jW ?_
      refine jo ?_
      refine WS.po (tb := tb) rfl rfl rfl rfl (step_P (evP_mulV rfl rfl rfl (by assumption) (by simp only [lo]; omega) (by simp only [Am.hi]; omega))) ?_
      refine jDF ?_
      refine je ?_
      refine WS.pcondF rfl rfl ?_
      refine WS.pout rfl rfl ?_
      exact ⟨rfl, (), trivial, (jSn [0,1,2,3,4] (by simp [jVb, jOb, jMb, mapL_cellsR, okL_cellsR, rfM, hl]) (by simp only [jSl, jOb, jMb, Nat.reduceAdd, Nat.reduceLT, rfM, hl] <;> exact jClo))⟩
  · rintro _ -
    have hl : (over2 x.bs (o1 * 68) (List.replicate (x.p * 68) v)).length = x.bs.length := over2_len (by rw [List.length_replicate]; omega)
    have hst1 := cellsI_set (k := .i64) (xs := x.bk.map Bk.next) (x := 0) (i := n) (by rw [List.length_map]; exact hb)
    have hst2 := cellsB_set (xs := x.bk.map Bk.torn) (x := decide (v = 0)) (i := n) (by rw [List.length_map]; exact hb)
    have e1 : (x.bk.map Bk.next).set n 0 = (x.bk.set n { y with next := 0, torn := decide (v = 0) }).map Bk.next := (map_set_of Bk.next hy { y with next := 0, torn := decide (v = 0) }).symm
    have e2 : (x.bk.map Bk.torn).set n (decide (v = 0)) = (x.bk.set n { y with next := 0, torn := decide (v = 0) }).map Bk.torn := (map_set_of Bk.torn hy { y with next := 0, torn := decide (v = 0) }).symm
    have e3 : x.bk.map Bk.bad = (x.bk.set n { y with next := 0, torn := decide (v = 0) }).map Bk.bad := (map_set_id Bk.bad hy (z := { y with next := 0, torn := decide (v = 0) }) rfl).symm
    rw [e1] at hst1
    rw [e2] at hst2
    simp only [rfM, hl]
    rcases hv with rfl | rfl
    · simp only [decide_true] at hst1 hst2 e3 ⊢
      refine jq ?_
      refine jg ?_
      iterate 2 refine jo ?_
      refine jP ?_
      iterate 2 refine jo ?_
      refine jI ?_
      refine WS.po0 (tb := tb) rfl rfl rfl rfl (step_H rfl rfl (evH_store rfl rfl rfl rfl rfl (Nat.zero_le _) rfl (by simp [vcells]) (by simp only [Bk_len, vcells, List.length_cons, List.length_nil, cellsI_len, cellsB_len, List.length_set, List.length_replicate, List.length_append, List.length_map, List.length_take, List.length_drop]; omega))) ?_; rw [upd_mem _ rfl]; simp only [vcells, List.set_cons_zero, List.set_cons_succ, hst1, hst2]; (try simp only [setL, List.set_cons_zero, List.set_cons_succ])
      refine je ?_
      refine jg ?_
      iterate 2 refine jo ?_
      refine jP ?_
      iterate 3 refine jo ?_
      refine jB true ?_
      refine jI ?_
      refine WS.po0 (tb := tb) rfl rfl rfl rfl (step_H rfl rfl (evH_store rfl rfl rfl rfl rfl (Nat.zero_le _) rfl (by simp [vcells]) (by simp only [Bk_len, vcells, List.length_cons, List.length_nil, cellsI_len, cellsB_len, List.length_set, List.length_replicate, List.length_append, List.length_map, List.length_take, List.length_drop]; omega))) ?_; rw [upd_mem _ rfl]; simp only [vcells, List.set_cons_zero, List.set_cons_succ, hst1, hst2]; (try simp only [setL, List.set_cons_zero, List.set_cons_succ])
      refine je ?_
      refine WS.nil ?_
      exact ⟨.inl rfl, _, rfl, _, rfl, rfl, by simp only [rfM, erF, hl, e3, List.length_set]⟩
    · have e255 : decide ((255 : Int) = 0) = false := by decide
      simp only [e255] at hst1 hst2 e3 ⊢
      refine jq ?_
      refine jg ?_
      iterate 2 refine jo ?_
      refine jP ?_
      iterate 2 refine jo ?_
      refine jI ?_
      refine WS.po0 (tb := tb) rfl rfl rfl rfl (step_H rfl rfl (evH_store rfl rfl rfl rfl rfl (Nat.zero_le _) rfl (by simp [vcells]) (by simp only [Bk_len, vcells, List.length_cons, List.length_nil, cellsI_len, cellsB_len, List.length_set, List.length_replicate, List.length_append, List.length_map, List.length_take, List.length_drop]; omega))) ?_; rw [upd_mem _ rfl]; simp only [vcells, List.set_cons_zero, List.set_cons_succ, hst1, hst2]; (try simp only [setL, List.set_cons_zero, List.set_cons_succ])
      refine je ?_
      refine jg ?_
      iterate 2 refine jo ?_
      refine jP ?_
      iterate 3 refine jo ?_
      refine jB false ?_
      refine jI ?_
      refine WS.po0 (tb := tb) rfl rfl rfl rfl (step_H rfl rfl (evH_store rfl rfl rfl rfl rfl (Nat.zero_le _) rfl (by simp [vcells]) (by simp only [Bk_len, vcells, List.length_cons, List.length_nil, cellsI_len, cellsB_len, List.length_set, List.length_replicate, List.length_append, List.length_map, List.length_take, List.length_drop]; omega))) ?_; rw [upd_mem _ rfl]; simp only [vcells, List.set_cons_zero, List.set_cons_succ, hst1, hst2]; (try simp only [setL, List.set_cons_zero, List.set_cons_succ])
      refine je ?_
      refine WS.nil ?_
      exact ⟨.inl rfl, _, rfl, _, rfl, rfl, by simp only [rfM, erF, hl, e3, List.length_set]⟩
end Go.Proofs.Ytmkolibmadbenaa.Am

