/- Set and Clear, walked. Conditions: those of each theorem. -/
import Derived.Test.YtdeeancepelkiaaRu6
namespace Go.Proofs.Ytdeeancepelkiaa.Am
open Go.Proofs
set_option maxRecDepth 1000000
set_option maxHeartbeats 4000000
set_option linter.unusedSimpArgs false
set_option linter.unusedVariables false
/-- Behind a change: its error, the tree. -/
def chE (most : Nat) (s : TS) (old fresh : List Rn) : Int := if s.n + fresh.length ≤ most + old.length then 0 else 5
def chS (most : Nat) (s : TS) (old fresh : List Rn) : TS := if s.n + fresh.length ≤ most + old.length then insL' most (delL s old) fresh else s
theorem change_any (cap most : Nat) (s : TS) (old fresh : List Rn) (h : TOk most s) (hm : most ≤ 512) (ho : old.length ≤ 600) (hf : fresh.length ≤ 600) (C : s.n + fresh.length ≤ most + old.length → Chg most s old fresh) :
    FM Try.prog 33 [.p (some (3,0)), slP 4 old, slP 5 fresh] (chM cap most s (bk0 old) (bk0 fresh)) (fun v M' => v = .i .i64 (chE most s old fresh) ∧ M' = chM cap most (chS most s old fresh) (bk0 old) (bk0 fresh)) := by
  unfold chE chS
  by_cases hx : s.n + fresh.length ≤ most + old.length
  · simp only [if_pos hx]
    rcases old with _ | ⟨o1, old⟩ <;> rcases fresh with _ | ⟨f1, fresh⟩
    · exact change_00 cap most s h hm ho hf (C hx)
    · exact change_01 cap most s f1 fresh h hm ho hf (C hx)
    · exact change_10 cap most s o1 old h hm ho hf (C hx)
    · exact change_11 cap most s o1 old f1 fresh h hm ho hf (C hx)
  · simp only [if_neg hx]
    exact change_full cap most s old fresh h hm ho hf hx
theorem cutG_len (lba n : Int) : ∀ (t o : List Rn) (b : Option Rn), o.length ≤ (cutG lba n t o b).1.length ∧ (cutG lba n t o b).1.length ≤ o.length + t.length
  | [], o, b => by simp [cutG]
  | r :: t, o, b => by
    simp only [cutG]; split
    · simp
    · have := cutG_len lba n t (o ++ [r]) (if r.b > past lba n r then some (offR r (past lba n r)) else b)
      simp only [List.length_append, List.length_cons, List.length_nil] at this ⊢; omega
theorem cutG_nil (lba n : Int) (t : List Rn) (h : (cutG lba n t [] none).1 = []) : (cutG lba n t [] none).2 = none := by
  cases t with
  | nil => rfl
  | cons r t =>
    simp only [cutG] at h ⊢
    split
    · rfl
    · next hr =>
      rw [if_neg hr] at h
      have := (cutG_len lba n t ([] ++ [r]) (if r.b > past lba n r then some (offR r (past lba n r)) else none)).1
      rw [h] at this; simp at this
theorem cutR_nil {lba n : Int} {L : List Rn} (h : (cutR lba n L).1 = []) : (cutR lba n L).2.1 = none ∧ (cutR lba n L).2.2 = none := by
  unfold cutR at h ⊢
  split
  · next ht => rw [ht] at h; exact ⟨rfl, cutG_nil lba n _ h⟩
  · next r ht =>
    rw [ht] at h
    simp only at h
    have := (cutG_len lba n (geR lba L) [r] (if r.a + r.b > lba + n then some (behA lba n r) else none)).1
    rw [h] at this; simp at this
theorem cutR_len {lba n : Int} {L : List Rn} : (cutR lba n L).1.length ≤ L.length + 1 := by
  unfold cutR
  have hg := geR_le lba L
  split
  · have := (cutG_len lba n (geR lba L) [] none).2; simp only [List.length_nil] at this ⊢; omega
  · next r _ => have := (cutG_len lba n (geR lba L) [r] (if r.a + r.b > lba + n then some (behA lba n r) else none)).2; simp only [List.length_cons, List.length_nil] at this ⊢; omega
theorem layS_ne {out : List Rn} {o : Option Rn} (h : out ≠ [] ∨ o ≠ none) : layS out o ≠ [] := by
  unfold layS
  split
  · rcases h with h | h
    · exact h
    · exact absurd rfl h
  · split
    · simp
    · split
      · next r q hq _ =>
        intro e
        have := congrArg List.length e
        simp only [List.length_set, List.length_nil] at this
        rw [List.length_eq_zero_iff.1 this] at hq
        simp at hq
      · simp
theorem set_000 (cap most : Nat) (s : TS) (lba n phys : Int) (f1 : Rn) (fresh : List Rn) (h : TOk most s) (hc : cap ≤ 512) (hm : most ≤ 512) (hr : rgt cap lba n = true) (hph : 0 ≤ phys) (hph2 : phys ≤ 1048576) (hb : ∀ r ∈ runsT s.T, RB r)
    (hcut : cutR lba n (runsT s.T) = (([] : List Rn), none, none)) (hlay : layL [none, some ⟨lba, n, phys⟩, none] = (f1 :: fresh)) (hB : ∀ i : Nat, ∀ q ∈ lyT [none, some ⟨lba, n, phys⟩, none] i, RB q) (hR : ∀ r, some r ∈ ([none, some ⟨lba, n, phys⟩, none] : List (Option Rn)) → RB r) (hol : ([] : List Rn).length ≤ 600) (hfl : ((f1 :: fresh) : List Rn).length ≤ 600)
    (C : s.n + ((f1 :: fresh) : List Rn).length ≤ most + ([] : List Rn).length → Chg most s ([] : List Rn) (f1 :: fresh)) :
    FM Try.prog 10 [.p (some (3,0)), .i .i64 lba, .i .i64 n, .i .i64 phys] (rmM cap most s) (fun v M' => v = .i .i64 (chE most s ([] : List Rn) (f1 :: fresh)) ∧ M' = rmM cap most (chS most s ([] : List Rn) (f1 :: fresh))) := by
  have R := rright_walk cap most s lba n hc
  rw [hr] at R
  have K := cut_walk cap most s lba n h hc hm hr hb
  simp only [hcut] at K
  have Y := lay3_walk none (some ⟨lba, n, phys⟩) none hB hR
  simp only [hlay] at Y
  have G := change_any cap most s ([] : List Rn) (f1 :: fresh) h hm hol hfl C
  simp only [slP, ptP, bkL, bkP, bkQ, bk0, lyM3] at K Y G
  refine FM.pbodyV (tb := tb) (fn := Try.f10) rfl rfl ?_
  simp only [argS, Nat.reduceAdd, rmM, tsM, trM, arM, List.length_cons, List.length_nil, List.cons_append, List.nil_append]
  refine WS.pseq rfl ?_
  refine WS.pregion rfl ?_
  refine WS.po (tb := tb) rfl rfl rfl rfl rfl ?_
  refine WS.pend rfl ?_
  refine WS.pseq rfl ?_
  refine WS.pseq rfl ?_
  refine WS.pregion rfl ?_
  refine WS.po (tb := tb) rfl rfl rfl rfl rfl ?_
  refine WS.po (tb := tb) rfl rfl rfl rfl rfl ?_
  refine WS.po (tb := tb) rfl rfl rfl rfl rfl ?_
  refine WS.pcallM (tb := tb) [0,1,2,3] R rfl rfl rfl rfl rfl (by (try simp only [mapL, mapV, ll]) <;> exact rfl) (by simp [okL, okV, rmR, tsR, trR, arR, chM, rmM, tsM, trM, arM, bkL, bk0]; fail_if_success exfalso) rfl (by simp [embP, okL, okV, mapL, mapV, mem_next, mem_get, mem_ro, mapL_cellsR, okL_cellsR, rmR, tsR, trR, arR, chM, rmM, tsM, trM, arM, bkL, bk0]; fail_if_success exfalso) rfl ?_; rintro _ _ ⟨rfl, rfl⟩ -; simp only [plugL, setsL, newsL, isOwn, ownB, over, mapL, mapV, ll, Nat.reduceAdd, Nat.reduceLT, Nat.zero_add, if_true, if_false, Nat.reduceSub, reduceIte, mapL_cellsR, Nat.lt_irrefl, Nat.not_lt_zero, Nat.zero_lt_succ, Nat.lt_add_one, rmR, tsR, trR, arR, chM, rmM, tsM, trM, arM, bkL, bk0]
  refine WS.poB (tb := tb) false rfl rfl rfl rfl rfl rfl ?_
  refine WS.po (tb := tb) rfl rfl rfl rfl rfl ?_
  refine WS.po (tb := tb) rfl rfl rfl rfl rfl ?_
  refine WS.poDF (tb := tb) rfl rfl rfl rfl rfl (by omega) ?_
  refine WS.po (tb := tb) rfl rfl rfl rfl rfl ?_
  refine WS.po (tb := tb) rfl rfl rfl rfl rfl ?_
  refine WS.po (tb := tb) rfl rfl rfl rfl rfl ?_
  refine WS.poDF (tb := tb) rfl rfl rfl rfl rfl (by omega) ?_
  refine WS.po (tb := tb) rfl rfl rfl rfl rfl ?_
  refine WS.pend rfl ?_
  refine WS.pcondF rfl rfl ?_
  refine WS.pskip rfl ?_
  refine WS.pseq rfl ?_
  refine WS.pregion rfl ?_
  refine WS.po (tb := tb) rfl rfl rfl rfl rfl ?_
  refine WS.po (tb := tb) rfl rfl rfl rfl rfl ?_
  refine WS.po (tb := tb) rfl rfl rfl rfl rfl ?_
  refine WS.pcallM (tb := tb) [0,1,2,3] K rfl rfl rfl rfl rfl (by (try simp only [mapL, mapV, ll]) <;> exact rfl) (by simp [okL, okV, rmR, tsR, trR, arR, chM, rmM, tsM, trM, arM, bkL, bk0]; fail_if_success exfalso) rfl (by simp [embP, okL, okV, mapL, mapV, mem_next, mem_get, mem_ro, mapL_cellsR, okL_cellsR, rmR, tsR, trR, arR, chM, rmM, tsM, trM, arM, bkL, bk0]; fail_if_success exfalso) rfl ?_; rintro _ _ ⟨rfl, rfl⟩ -; simp only [plugL, setsL, newsL, isOwn, ownB, over, mapL, mapV, ll, Nat.reduceAdd, Nat.reduceLT, Nat.zero_add, if_true, if_false, Nat.reduceSub, reduceIte, mapL_cellsR, Nat.lt_irrefl, Nat.not_lt_zero, Nat.zero_lt_succ, Nat.lt_add_one, rmR, tsR, trR, arR, chM, rmM, tsM, trM, arM, bkL, bk0]
  refine WS.po (tb := tb) rfl rfl rfl rfl rfl ?_
  refine WS.po (tb := tb) rfl rfl rfl rfl rfl ?_
  refine WS.po (tb := tb) rfl rfl rfl rfl rfl ?_
  refine WS.po (tb := tb) rfl rfl rfl rfl rfl ?_
  refine WS.po (tb := tb) rfl rfl rfl rfl rfl ?_
  refine WS.po (tb := tb) rfl rfl rfl rfl rfl ?_
  refine WS.po (tb := tb) rfl rfl rfl rfl rfl ?_
  refine WS.pend rfl ?_
  refine WS.pseq rfl ?_
  refine WS.pregion rfl ?_
  refine WS.po (tb := tb) rfl rfl rfl rfl rfl ?_
  refine WS.po (tb := tb) rfl rfl rfl rfl rfl ?_
  refine WS.po (tb := tb) rfl rfl rfl rfl rfl ?_
  refine WS.po (tb := tb) rfl rfl rfl rfl rfl ?_
  refine WS.po (tb := tb) rfl rfl rfl rfl rfl ?_
  refine WS.po (tb := tb) rfl rfl rfl rfl rfl ?_
  refine WS.poA (tb := tb) rfl rfl rfl rfl rfl (by simp only [vcells, setL, ll, nl, nz, Nat.reduceAdd, Nat.reduceMul, Int.reduceToNat]; exact rfl) ?_
  refine WS.po (tb := tb) rfl rfl rfl rfl rfl ?_; rw [new_mem]; simp only [ll, vcells, mem_next, Nat.zero_add, Nat.zero_mul, Nat.reduceAdd, reps, setL, Nat.reduceMul]
  refine WS.po (tb := tb) rfl rfl rfl rfl rfl ?_
  refine WS.po (tb := tb) rfl rfl rfl rfl rfl ?_; rw [new_mem]; simp only [ll, vcells, mem_next, Nat.zero_add, Nat.zero_mul, Nat.reduceAdd, reps, setL, Nat.reduceMul]
  refine WS.pcallM (tb := tb) [8,5,7,6] Y rfl rfl rfl rfl rfl (by (try simp only [mapL, mapV, ll]) <;> exact rfl) (by simp [okL, okV, rmR, tsR, trR, arR, chM, rmM, tsM, trM, arM, bkL, bk0]; fail_if_success exfalso) rfl (by simp [embP, okL, okV, mapL, mapV, mem_next, mem_get, mem_ro, mapL_cellsR, okL_cellsR, rmR, tsR, trR, arR, chM, rmM, tsM, trM, arM, bkL, bk0]; fail_if_success exfalso) rfl ?_; rintro _ _ ⟨rfl, rfl⟩ -; simp only [plugL, setsL, newsL, isOwn, ownB, over, mapL, mapV, ll, Nat.reduceAdd, Nat.reduceLT, Nat.zero_add, if_true, if_false, Nat.reduceSub, reduceIte, mapL_cellsR, Nat.lt_irrefl, Nat.not_lt_zero, Nat.zero_lt_succ, Nat.lt_add_one, rmR, tsR, trR, arR, chM, rmM, tsM, trM, arM, bkL, bk0]
  refine WS.pcallM (tb := tb) [0,1,2,3,4,9] G rfl rfl rfl rfl rfl (by (try simp only [mapL, mapV, ll]) <;> exact rfl) (by simp [okL, okV, rmR, tsR, trR, arR, chM, rmM, tsM, trM, arM, bkL, bk0]; fail_if_success exfalso) rfl (by simp [embP, okL, okV, mapL, mapV, mem_next, mem_get, mem_ro, mapL_cellsR, okL_cellsR, rmR, tsR, trR, arR, chM, rmM, tsM, trM, arM, bkL, bk0]; fail_if_success exfalso) rfl ?_; rintro _ _ ⟨rfl, rfl⟩ -; simp only [plugL, setsL, newsL, isOwn, ownB, over, mapL, mapV, ll, Nat.reduceAdd, Nat.reduceLT, Nat.zero_add, if_true, if_false, Nat.reduceSub, reduceIte, mapL_cellsR, Nat.lt_irrefl, Nat.not_lt_zero, Nat.zero_lt_succ, Nat.lt_add_one, rmR, tsR, trR, arR, chM, rmM, tsM, trM, arM, bkL, bk0]
  refine WS.po (tb := tb) rfl rfl rfl rfl rfl ?_
  refine WS.pend rfl ?_
  refine WS.pret rfl ⟨.inr rfl, _, rfl, ?_⟩
  generalize chS most s ([] : List Rn) (f1 :: fresh) = q
  exact ⟨_, rfl, [0,1,2,3], rmM cap most q, .i .i64 (chE most s ([] : List Rn) (f1 :: fresh)), ⟨rfl, rfl, (by simp [viewP, okL, okV, mapL, mapV, mem_get, mapL_cellsR, okL_cellsR, rmM, tsM, trM, arM]), rfl⟩, rfl, trivial, rfl, rfl⟩
theorem set_100 (cap most : Nat) (s : TS) (lba n phys : Int) (o1 : Rn) (old : List Rn) (f1 : Rn) (fresh : List Rn) (h : TOk most s) (hc : cap ≤ 512) (hm : most ≤ 512) (hr : rgt cap lba n = true) (hph : 0 ≤ phys) (hph2 : phys ≤ 1048576) (hb : ∀ r ∈ runsT s.T, RB r)
    (hcut : cutR lba n (runsT s.T) = ((o1 :: old), none, none)) (hlay : layL [none, some ⟨lba, n, phys⟩, none] = (f1 :: fresh)) (hB : ∀ i : Nat, ∀ q ∈ lyT [none, some ⟨lba, n, phys⟩, none] i, RB q) (hR : ∀ r, some r ∈ ([none, some ⟨lba, n, phys⟩, none] : List (Option Rn)) → RB r) (hol : (o1 :: old).length ≤ 600) (hfl : ((f1 :: fresh) : List Rn).length ≤ 600)
    (C : s.n + ((f1 :: fresh) : List Rn).length ≤ most + (o1 :: old).length → Chg most s (o1 :: old) (f1 :: fresh)) :
    FM Try.prog 10 [.p (some (3,0)), .i .i64 lba, .i .i64 n, .i .i64 phys] (rmM cap most s) (fun v M' => v = .i .i64 (chE most s (o1 :: old) (f1 :: fresh)) ∧ M' = rmM cap most (chS most s (o1 :: old) (f1 :: fresh))) := by
  have R := rright_walk cap most s lba n hc
  rw [hr] at R
  have K := cut_walk cap most s lba n h hc hm hr hb
  simp only [hcut] at K
  have Y := lay3_walk none (some ⟨lba, n, phys⟩) none hB hR
  simp only [hlay] at Y
  have G := change_any cap most s (o1 :: old) (f1 :: fresh) h hm hol hfl C
  simp only [slP, ptP, bkL, bkP, bkQ, bk0, lyM3] at K Y G
  refine FM.pbodyV (tb := tb) (fn := Try.f10) rfl rfl ?_
  simp only [argS, Nat.reduceAdd, rmM, tsM, trM, arM, List.length_cons, List.length_nil, List.cons_append, List.nil_append]
  refine WS.pseq rfl ?_
  refine WS.pregion rfl ?_
  refine WS.po (tb := tb) rfl rfl rfl rfl rfl ?_
  refine WS.pend rfl ?_
  refine WS.pseq rfl ?_
  refine WS.pseq rfl ?_
  refine WS.pregion rfl ?_
  refine WS.po (tb := tb) rfl rfl rfl rfl rfl ?_
  refine WS.po (tb := tb) rfl rfl rfl rfl rfl ?_
  refine WS.po (tb := tb) rfl rfl rfl rfl rfl ?_
  refine WS.pcallM (tb := tb) [0,1,2,3] R rfl rfl rfl rfl rfl (by (try simp only [mapL, mapV, ll]) <;> exact rfl) (by simp [okL, okV, rmR, tsR, trR, arR, chM, rmM, tsM, trM, arM, bkL, bk0]; fail_if_success exfalso) rfl (by simp [embP, okL, okV, mapL, mapV, mem_next, mem_get, mem_ro, mapL_cellsR, okL_cellsR, rmR, tsR, trR, arR, chM, rmM, tsM, trM, arM, bkL, bk0]; fail_if_success exfalso) rfl ?_; rintro _ _ ⟨rfl, rfl⟩ -; simp only [plugL, setsL, newsL, isOwn, ownB, over, mapL, mapV, ll, Nat.reduceAdd, Nat.reduceLT, Nat.zero_add, if_true, if_false, Nat.reduceSub, reduceIte, mapL_cellsR, Nat.lt_irrefl, Nat.not_lt_zero, Nat.zero_lt_succ, Nat.lt_add_one, rmR, tsR, trR, arR, chM, rmM, tsM, trM, arM, bkL, bk0]
  refine WS.poB (tb := tb) false rfl rfl rfl rfl rfl rfl ?_
  refine WS.po (tb := tb) rfl rfl rfl rfl rfl ?_
  refine WS.po (tb := tb) rfl rfl rfl rfl rfl ?_
  refine WS.poDF (tb := tb) rfl rfl rfl rfl rfl (by omega) ?_
  refine WS.po (tb := tb) rfl rfl rfl rfl rfl ?_
  refine WS.po (tb := tb) rfl rfl rfl rfl rfl ?_
  refine WS.po (tb := tb) rfl rfl rfl rfl rfl ?_
  refine WS.poDF (tb := tb) rfl rfl rfl rfl rfl (by omega) ?_
  refine WS.po (tb := tb) rfl rfl rfl rfl rfl ?_
  refine WS.pend rfl ?_
  refine WS.pcondF rfl rfl ?_
  refine WS.pskip rfl ?_
  refine WS.pseq rfl ?_
  refine WS.pregion rfl ?_
  refine WS.po (tb := tb) rfl rfl rfl rfl rfl ?_
  refine WS.po (tb := tb) rfl rfl rfl rfl rfl ?_
  refine WS.po (tb := tb) rfl rfl rfl rfl rfl ?_
  refine WS.pcallM (tb := tb) [0,1,2,3] K rfl rfl rfl rfl rfl (by (try simp only [mapL, mapV, ll]) <;> exact rfl) (by simp [okL, okV, rmR, tsR, trR, arR, chM, rmM, tsM, trM, arM, bkL, bk0]; fail_if_success exfalso) rfl (by simp [embP, okL, okV, mapL, mapV, mem_next, mem_get, mem_ro, mapL_cellsR, okL_cellsR, rmR, tsR, trR, arR, chM, rmM, tsM, trM, arM, bkL, bk0]; fail_if_success exfalso) rfl ?_; rintro _ _ ⟨rfl, rfl⟩ -; simp only [plugL, setsL, newsL, isOwn, ownB, over, mapL, mapV, ll, Nat.reduceAdd, Nat.reduceLT, Nat.zero_add, if_true, if_false, Nat.reduceSub, reduceIte, mapL_cellsR, Nat.lt_irrefl, Nat.not_lt_zero, Nat.zero_lt_succ, Nat.lt_add_one, rmR, tsR, trR, arR, chM, rmM, tsM, trM, arM, bkL, bk0]
  refine WS.po (tb := tb) rfl rfl rfl rfl rfl ?_
  refine WS.po (tb := tb) rfl rfl rfl rfl rfl ?_
  refine WS.po (tb := tb) rfl rfl rfl rfl rfl ?_
  refine WS.po (tb := tb) rfl rfl rfl rfl rfl ?_
  refine WS.po (tb := tb) rfl rfl rfl rfl rfl ?_
  refine WS.po (tb := tb) rfl rfl rfl rfl rfl ?_
  refine WS.po (tb := tb) rfl rfl rfl rfl rfl ?_
  refine WS.pend rfl ?_
  refine WS.pseq rfl ?_
  refine WS.pregion rfl ?_
  refine WS.po (tb := tb) rfl rfl rfl rfl rfl ?_
  refine WS.po (tb := tb) rfl rfl rfl rfl rfl ?_
  refine WS.po (tb := tb) rfl rfl rfl rfl rfl ?_
  refine WS.po (tb := tb) rfl rfl rfl rfl rfl ?_
  refine WS.po (tb := tb) rfl rfl rfl rfl rfl ?_
  refine WS.po (tb := tb) rfl rfl rfl rfl rfl ?_
  refine WS.poA (tb := tb) rfl rfl rfl rfl rfl (by simp only [vcells, setL, ll, nl, nz, Nat.reduceAdd, Nat.reduceMul, Int.reduceToNat]; exact rfl) ?_
  refine WS.po (tb := tb) rfl rfl rfl rfl rfl ?_; rw [new_mem]; simp only [ll, vcells, mem_next, Nat.zero_add, Nat.zero_mul, Nat.reduceAdd, reps, setL, Nat.reduceMul]
  refine WS.po (tb := tb) rfl rfl rfl rfl rfl ?_
  refine WS.po (tb := tb) rfl rfl rfl rfl rfl ?_; rw [new_mem]; simp only [ll, vcells, mem_next, Nat.zero_add, Nat.zero_mul, Nat.reduceAdd, reps, setL, Nat.reduceMul]
  refine WS.pcallM (tb := tb) [8,5,7,6] Y rfl rfl rfl rfl rfl (by (try simp only [mapL, mapV, ll]) <;> exact rfl) (by simp [okL, okV, rmR, tsR, trR, arR, chM, rmM, tsM, trM, arM, bkL, bk0]; fail_if_success exfalso) rfl (by simp [embP, okL, okV, mapL, mapV, mem_next, mem_get, mem_ro, mapL_cellsR, okL_cellsR, rmR, tsR, trR, arR, chM, rmM, tsM, trM, arM, bkL, bk0]; fail_if_success exfalso) rfl ?_; rintro _ _ ⟨rfl, rfl⟩ -; simp only [plugL, setsL, newsL, isOwn, ownB, over, mapL, mapV, ll, Nat.reduceAdd, Nat.reduceLT, Nat.zero_add, if_true, if_false, Nat.reduceSub, reduceIte, mapL_cellsR, Nat.lt_irrefl, Nat.not_lt_zero, Nat.zero_lt_succ, Nat.lt_add_one, rmR, tsR, trR, arR, chM, rmM, tsM, trM, arM, bkL, bk0]
  refine WS.pcallM (tb := tb) [0,1,2,3,4,9] G rfl rfl rfl rfl rfl (by (try simp only [mapL, mapV, ll]) <;> exact rfl) (by simp [okL, okV, rmR, tsR, trR, arR, chM, rmM, tsM, trM, arM, bkL, bk0]; fail_if_success exfalso) rfl (by simp [embP, okL, okV, mapL, mapV, mem_next, mem_get, mem_ro, mapL_cellsR, okL_cellsR, rmR, tsR, trR, arR, chM, rmM, tsM, trM, arM, bkL, bk0]; fail_if_success exfalso) rfl ?_; rintro _ _ ⟨rfl, rfl⟩ -; simp only [plugL, setsL, newsL, isOwn, ownB, over, mapL, mapV, ll, Nat.reduceAdd, Nat.reduceLT, Nat.zero_add, if_true, if_false, Nat.reduceSub, reduceIte, mapL_cellsR, Nat.lt_irrefl, Nat.not_lt_zero, Nat.zero_lt_succ, Nat.lt_add_one, rmR, tsR, trR, arR, chM, rmM, tsM, trM, arM, bkL, bk0]
  refine WS.po (tb := tb) rfl rfl rfl rfl rfl ?_
  refine WS.pend rfl ?_
  refine WS.pret rfl ⟨.inr rfl, _, rfl, ?_⟩
  generalize chS most s (o1 :: old) (f1 :: fresh) = q
  exact ⟨_, rfl, [0,1,2,3], rmM cap most q, .i .i64 (chE most s (o1 :: old) (f1 :: fresh)), ⟨rfl, rfl, (by simp [viewP, okL, okV, mapL, mapV, mem_get, mapL_cellsR, okL_cellsR, rmM, tsM, trM, arM]), rfl⟩, rfl, trivial, rfl, rfl⟩
theorem set_101 (cap most : Nat) (s : TS) (lba n phys : Int) (o1 : Rn) (old : List Rn) (be : Rn) (f1 : Rn) (fresh : List Rn) (h : TOk most s) (hc : cap ≤ 512) (hm : most ≤ 512) (hr : rgt cap lba n = true) (hph : 0 ≤ phys) (hph2 : phys ≤ 1048576) (hb : ∀ r ∈ runsT s.T, RB r)
    (hcut : cutR lba n (runsT s.T) = ((o1 :: old), none, (some be))) (hlay : layL [none, some ⟨lba, n, phys⟩, (some be)] = (f1 :: fresh)) (hB : ∀ i : Nat, ∀ q ∈ lyT [none, some ⟨lba, n, phys⟩, (some be)] i, RB q) (hR : ∀ r, some r ∈ ([none, some ⟨lba, n, phys⟩, (some be)] : List (Option Rn)) → RB r) (hol : (o1 :: old).length ≤ 600) (hfl : ((f1 :: fresh) : List Rn).length ≤ 600)
    (C : s.n + ((f1 :: fresh) : List Rn).length ≤ most + (o1 :: old).length → Chg most s (o1 :: old) (f1 :: fresh)) :
    FM Try.prog 10 [.p (some (3,0)), .i .i64 lba, .i .i64 n, .i .i64 phys] (rmM cap most s) (fun v M' => v = .i .i64 (chE most s (o1 :: old) (f1 :: fresh)) ∧ M' = rmM cap most (chS most s (o1 :: old) (f1 :: fresh))) := by
  have R := rright_walk cap most s lba n hc
  rw [hr] at R
  have K := cut_walk cap most s lba n h hc hm hr hb
  simp only [hcut] at K
  have Y := lay3_walk none (some ⟨lba, n, phys⟩) (some be) hB hR
  simp only [hlay] at Y
  have G := change_any cap most s (o1 :: old) (f1 :: fresh) h hm hol hfl C
  simp only [slP, ptP, bkL, bkP, bkQ, bk0, lyM3] at K Y G
  refine FM.pbodyV (tb := tb) (fn := Try.f10) rfl rfl ?_
  simp only [argS, Nat.reduceAdd, rmM, tsM, trM, arM, List.length_cons, List.length_nil, List.cons_append, List.nil_append]
  refine WS.pseq rfl ?_
  refine WS.pregion rfl ?_
  refine WS.po (tb := tb) rfl rfl rfl rfl rfl ?_
  refine WS.pend rfl ?_
  refine WS.pseq rfl ?_
  refine WS.pseq rfl ?_
  refine WS.pregion rfl ?_
  refine WS.po (tb := tb) rfl rfl rfl rfl rfl ?_
  refine WS.po (tb := tb) rfl rfl rfl rfl rfl ?_
  refine WS.po (tb := tb) rfl rfl rfl rfl rfl ?_
  refine WS.pcallM (tb := tb) [0,1,2,3] R rfl rfl rfl rfl rfl (by (try simp only [mapL, mapV, ll]) <;> exact rfl) (by simp [okL, okV, rmR, tsR, trR, arR, chM, rmM, tsM, trM, arM, bkL, bk0]; fail_if_success exfalso) rfl (by simp [embP, okL, okV, mapL, mapV, mem_next, mem_get, mem_ro, mapL_cellsR, okL_cellsR, rmR, tsR, trR, arR, chM, rmM, tsM, trM, arM, bkL, bk0]; fail_if_success exfalso) rfl ?_; rintro _ _ ⟨rfl, rfl⟩ -; simp only [plugL, setsL, newsL, isOwn, ownB, over, mapL, mapV, ll, Nat.reduceAdd, Nat.reduceLT, Nat.zero_add, if_true, if_false, Nat.reduceSub, reduceIte, mapL_cellsR, Nat.lt_irrefl, Nat.not_lt_zero, Nat.zero_lt_succ, Nat.lt_add_one, rmR, tsR, trR, arR, chM, rmM, tsM, trM, arM, bkL, bk0]
  refine WS.poB (tb := tb) false rfl rfl rfl rfl rfl rfl ?_
  refine WS.po (tb := tb) rfl rfl rfl rfl rfl ?_
  refine WS.po (tb := tb) rfl rfl rfl rfl rfl ?_
  refine WS.poDF (tb := tb) rfl rfl rfl rfl rfl (by omega) ?_
  refine WS.po (tb := tb) rfl rfl rfl rfl rfl ?_
  refine WS.po (tb := tb) rfl rfl rfl rfl rfl ?_
  refine WS.po (tb := tb) rfl rfl rfl rfl rfl ?_
  refine WS.poDF (tb := tb) rfl rfl rfl rfl rfl (by omega) ?_
  refine WS.po (tb := tb) rfl rfl rfl rfl rfl ?_
  refine WS.pend rfl ?_
  refine WS.pcondF rfl rfl ?_
  refine WS.pskip rfl ?_
  refine WS.pseq rfl ?_
  refine WS.pregion rfl ?_
  refine WS.po (tb := tb) rfl rfl rfl rfl rfl ?_
  refine WS.po (tb := tb) rfl rfl rfl rfl rfl ?_
  refine WS.po (tb := tb) rfl rfl rfl rfl rfl ?_
  refine WS.pcallM (tb := tb) [0,1,2,3] K rfl rfl rfl rfl rfl (by (try simp only [mapL, mapV, ll]) <;> exact rfl) (by simp [okL, okV, rmR, tsR, trR, arR, chM, rmM, tsM, trM, arM, bkL, bk0]; fail_if_success exfalso) rfl (by simp [embP, okL, okV, mapL, mapV, mem_next, mem_get, mem_ro, mapL_cellsR, okL_cellsR, rmR, tsR, trR, arR, chM, rmM, tsM, trM, arM, bkL, bk0]; fail_if_success exfalso) rfl ?_; rintro _ _ ⟨rfl, rfl⟩ -; simp only [plugL, setsL, newsL, isOwn, ownB, over, mapL, mapV, ll, Nat.reduceAdd, Nat.reduceLT, Nat.zero_add, if_true, if_false, Nat.reduceSub, reduceIte, mapL_cellsR, Nat.lt_irrefl, Nat.not_lt_zero, Nat.zero_lt_succ, Nat.lt_add_one, rmR, tsR, trR, arR, chM, rmM, tsM, trM, arM, bkL, bk0]
  refine WS.po (tb := tb) rfl rfl rfl rfl rfl ?_
  refine WS.po (tb := tb) rfl rfl rfl rfl rfl ?_
  refine WS.po (tb := tb) rfl rfl rfl rfl rfl ?_
  refine WS.po (tb := tb) rfl rfl rfl rfl rfl ?_
  refine WS.po (tb := tb) rfl rfl rfl rfl rfl ?_
  refine WS.po (tb := tb) rfl rfl rfl rfl rfl ?_
  refine WS.po (tb := tb) rfl rfl rfl rfl rfl ?_
  refine WS.pend rfl ?_
  refine WS.pseq rfl ?_
  refine WS.pregion rfl ?_
  refine WS.po (tb := tb) rfl rfl rfl rfl rfl ?_
  refine WS.po (tb := tb) rfl rfl rfl rfl rfl ?_
  refine WS.po (tb := tb) rfl rfl rfl rfl rfl ?_
  refine WS.po (tb := tb) rfl rfl rfl rfl rfl ?_
  refine WS.po (tb := tb) rfl rfl rfl rfl rfl ?_
  refine WS.po (tb := tb) rfl rfl rfl rfl rfl ?_
  refine WS.poA (tb := tb) rfl rfl rfl rfl rfl (by simp only [vcells, setL, ll, nl, nz, Nat.reduceAdd, Nat.reduceMul, Int.reduceToNat]; exact rfl) ?_
  refine WS.po (tb := tb) rfl rfl rfl rfl rfl ?_; rw [new_mem]; simp only [ll, vcells, mem_next, Nat.zero_add, Nat.zero_mul, Nat.reduceAdd, reps, setL, Nat.reduceMul]
  refine WS.po (tb := tb) rfl rfl rfl rfl rfl ?_
  refine WS.po (tb := tb) rfl rfl rfl rfl rfl ?_; rw [new_mem]; simp only [ll, vcells, mem_next, Nat.zero_add, Nat.zero_mul, Nat.reduceAdd, reps, setL, Nat.reduceMul]
  refine WS.pcallM (tb := tb) [8,5,7,6] Y rfl rfl rfl rfl rfl (by (try simp only [mapL, mapV, ll]) <;> exact rfl) (by simp [okL, okV, rmR, tsR, trR, arR, chM, rmM, tsM, trM, arM, bkL, bk0]; fail_if_success exfalso) rfl (by simp [embP, okL, okV, mapL, mapV, mem_next, mem_get, mem_ro, mapL_cellsR, okL_cellsR, rmR, tsR, trR, arR, chM, rmM, tsM, trM, arM, bkL, bk0]; fail_if_success exfalso) rfl ?_; rintro _ _ ⟨rfl, rfl⟩ -; simp only [plugL, setsL, newsL, isOwn, ownB, over, mapL, mapV, ll, Nat.reduceAdd, Nat.reduceLT, Nat.zero_add, if_true, if_false, Nat.reduceSub, reduceIte, mapL_cellsR, Nat.lt_irrefl, Nat.not_lt_zero, Nat.zero_lt_succ, Nat.lt_add_one, rmR, tsR, trR, arR, chM, rmM, tsM, trM, arM, bkL, bk0]
  refine WS.pcallM (tb := tb) [0,1,2,3,4,9] G rfl rfl rfl rfl rfl (by (try simp only [mapL, mapV, ll]) <;> exact rfl) (by simp [okL, okV, rmR, tsR, trR, arR, chM, rmM, tsM, trM, arM, bkL, bk0]; fail_if_success exfalso) rfl (by simp [embP, okL, okV, mapL, mapV, mem_next, mem_get, mem_ro, mapL_cellsR, okL_cellsR, rmR, tsR, trR, arR, chM, rmM, tsM, trM, arM, bkL, bk0]; fail_if_success exfalso) rfl ?_; rintro _ _ ⟨rfl, rfl⟩ -; simp only [plugL, setsL, newsL, isOwn, ownB, over, mapL, mapV, ll, Nat.reduceAdd, Nat.reduceLT, Nat.zero_add, if_true, if_false, Nat.reduceSub, reduceIte, mapL_cellsR, Nat.lt_irrefl, Nat.not_lt_zero, Nat.zero_lt_succ, Nat.lt_add_one, rmR, tsR, trR, arR, chM, rmM, tsM, trM, arM, bkL, bk0]
  refine WS.po (tb := tb) rfl rfl rfl rfl rfl ?_
  refine WS.pend rfl ?_
  refine WS.pret rfl ⟨.inr rfl, _, rfl, ?_⟩
  generalize chS most s (o1 :: old) (f1 :: fresh) = q
  exact ⟨_, rfl, [0,1,2,3], rmM cap most q, .i .i64 (chE most s (o1 :: old) (f1 :: fresh)), ⟨rfl, rfl, (by simp [viewP, okL, okV, mapL, mapV, mem_get, mapL_cellsR, okL_cellsR, rmM, tsM, trM, arM]), rfl⟩, rfl, trivial, rfl, rfl⟩
theorem set_110 (cap most : Nat) (s : TS) (lba n phys : Int) (o1 : Rn) (old : List Rn) (ah : Rn) (f1 : Rn) (fresh : List Rn) (h : TOk most s) (hc : cap ≤ 512) (hm : most ≤ 512) (hr : rgt cap lba n = true) (hph : 0 ≤ phys) (hph2 : phys ≤ 1048576) (hb : ∀ r ∈ runsT s.T, RB r)
    (hcut : cutR lba n (runsT s.T) = ((o1 :: old), (some ah), none)) (hlay : layL [(some ah), some ⟨lba, n, phys⟩, none] = (f1 :: fresh)) (hB : ∀ i : Nat, ∀ q ∈ lyT [(some ah), some ⟨lba, n, phys⟩, none] i, RB q) (hR : ∀ r, some r ∈ ([(some ah), some ⟨lba, n, phys⟩, none] : List (Option Rn)) → RB r) (hol : (o1 :: old).length ≤ 600) (hfl : ((f1 :: fresh) : List Rn).length ≤ 600)
    (C : s.n + ((f1 :: fresh) : List Rn).length ≤ most + (o1 :: old).length → Chg most s (o1 :: old) (f1 :: fresh)) :
    FM Try.prog 10 [.p (some (3,0)), .i .i64 lba, .i .i64 n, .i .i64 phys] (rmM cap most s) (fun v M' => v = .i .i64 (chE most s (o1 :: old) (f1 :: fresh)) ∧ M' = rmM cap most (chS most s (o1 :: old) (f1 :: fresh))) := by
  have R := rright_walk cap most s lba n hc
  rw [hr] at R
  have K := cut_walk cap most s lba n h hc hm hr hb
  simp only [hcut] at K
  have Y := lay3_walk (some ah) (some ⟨lba, n, phys⟩) none hB hR
  simp only [hlay] at Y
  have G := change_any cap most s (o1 :: old) (f1 :: fresh) h hm hol hfl C
  simp only [slP, ptP, bkL, bkP, bkQ, bk0, lyM3] at K Y G
  refine FM.pbodyV (tb := tb) (fn := Try.f10) rfl rfl ?_
  simp only [argS, Nat.reduceAdd, rmM, tsM, trM, arM, List.length_cons, List.length_nil, List.cons_append, List.nil_append]
  refine WS.pseq rfl ?_
  refine WS.pregion rfl ?_
  refine WS.po (tb := tb) rfl rfl rfl rfl rfl ?_
  refine WS.pend rfl ?_
  refine WS.pseq rfl ?_
  refine WS.pseq rfl ?_
  refine WS.pregion rfl ?_
  refine WS.po (tb := tb) rfl rfl rfl rfl rfl ?_
  refine WS.po (tb := tb) rfl rfl rfl rfl rfl ?_
  refine WS.po (tb := tb) rfl rfl rfl rfl rfl ?_
  refine WS.pcallM (tb := tb) [0,1,2,3] R rfl rfl rfl rfl rfl (by (try simp only [mapL, mapV, ll]) <;> exact rfl) (by simp [okL, okV, rmR, tsR, trR, arR, chM, rmM, tsM, trM, arM, bkL, bk0]; fail_if_success exfalso) rfl (by simp [embP, okL, okV, mapL, mapV, mem_next, mem_get, mem_ro, mapL_cellsR, okL_cellsR, rmR, tsR, trR, arR, chM, rmM, tsM, trM, arM, bkL, bk0]; fail_if_success exfalso) rfl ?_; rintro _ _ ⟨rfl, rfl⟩ -; simp only [plugL, setsL, newsL, isOwn, ownB, over, mapL, mapV, ll, Nat.reduceAdd, Nat.reduceLT, Nat.zero_add, if_true, if_false, Nat.reduceSub, reduceIte, mapL_cellsR, Nat.lt_irrefl, Nat.not_lt_zero, Nat.zero_lt_succ, Nat.lt_add_one, rmR, tsR, trR, arR, chM, rmM, tsM, trM, arM, bkL, bk0]
  refine WS.poB (tb := tb) false rfl rfl rfl rfl rfl rfl ?_
  refine WS.po (tb := tb) rfl rfl rfl rfl rfl ?_
  refine WS.po (tb := tb) rfl rfl rfl rfl rfl ?_
  refine WS.poDF (tb := tb) rfl rfl rfl rfl rfl (by omega) ?_
  refine WS.po (tb := tb) rfl rfl rfl rfl rfl ?_
  refine WS.po (tb := tb) rfl rfl rfl rfl rfl ?_
  refine WS.po (tb := tb) rfl rfl rfl rfl rfl ?_
  refine WS.poDF (tb := tb) rfl rfl rfl rfl rfl (by omega) ?_
  refine WS.po (tb := tb) rfl rfl rfl rfl rfl ?_
  refine WS.pend rfl ?_
  refine WS.pcondF rfl rfl ?_
  refine WS.pskip rfl ?_
  refine WS.pseq rfl ?_
  refine WS.pregion rfl ?_
  refine WS.po (tb := tb) rfl rfl rfl rfl rfl ?_
  refine WS.po (tb := tb) rfl rfl rfl rfl rfl ?_
  refine WS.po (tb := tb) rfl rfl rfl rfl rfl ?_
  refine WS.pcallM (tb := tb) [0,1,2,3] K rfl rfl rfl rfl rfl (by (try simp only [mapL, mapV, ll]) <;> exact rfl) (by simp [okL, okV, rmR, tsR, trR, arR, chM, rmM, tsM, trM, arM, bkL, bk0]; fail_if_success exfalso) rfl (by simp [embP, okL, okV, mapL, mapV, mem_next, mem_get, mem_ro, mapL_cellsR, okL_cellsR, rmR, tsR, trR, arR, chM, rmM, tsM, trM, arM, bkL, bk0]; fail_if_success exfalso) rfl ?_; rintro _ _ ⟨rfl, rfl⟩ -; simp only [plugL, setsL, newsL, isOwn, ownB, over, mapL, mapV, ll, Nat.reduceAdd, Nat.reduceLT, Nat.zero_add, if_true, if_false, Nat.reduceSub, reduceIte, mapL_cellsR, Nat.lt_irrefl, Nat.not_lt_zero, Nat.zero_lt_succ, Nat.lt_add_one, rmR, tsR, trR, arR, chM, rmM, tsM, trM, arM, bkL, bk0]
  refine WS.po (tb := tb) rfl rfl rfl rfl rfl ?_
  refine WS.po (tb := tb) rfl rfl rfl rfl rfl ?_
  refine WS.po (tb := tb) rfl rfl rfl rfl rfl ?_
  refine WS.po (tb := tb) rfl rfl rfl rfl rfl ?_
  refine WS.po (tb := tb) rfl rfl rfl rfl rfl ?_
  refine WS.po (tb := tb) rfl rfl rfl rfl rfl ?_
  refine WS.po (tb := tb) rfl rfl rfl rfl rfl ?_
  refine WS.pend rfl ?_
  refine WS.pseq rfl ?_
  refine WS.pregion rfl ?_
  refine WS.po (tb := tb) rfl rfl rfl rfl rfl ?_
  refine WS.po (tb := tb) rfl rfl rfl rfl rfl ?_
  refine WS.po (tb := tb) rfl rfl rfl rfl rfl ?_
  refine WS.po (tb := tb) rfl rfl rfl rfl rfl ?_
  refine WS.po (tb := tb) rfl rfl rfl rfl rfl ?_
  refine WS.po (tb := tb) rfl rfl rfl rfl rfl ?_
  refine WS.poA (tb := tb) rfl rfl rfl rfl rfl (by simp only [vcells, setL, ll, nl, nz, Nat.reduceAdd, Nat.reduceMul, Int.reduceToNat]; exact rfl) ?_
  refine WS.po (tb := tb) rfl rfl rfl rfl rfl ?_; rw [new_mem]; simp only [ll, vcells, mem_next, Nat.zero_add, Nat.zero_mul, Nat.reduceAdd, reps, setL, Nat.reduceMul]
  refine WS.po (tb := tb) rfl rfl rfl rfl rfl ?_
  refine WS.po (tb := tb) rfl rfl rfl rfl rfl ?_; rw [new_mem]; simp only [ll, vcells, mem_next, Nat.zero_add, Nat.zero_mul, Nat.reduceAdd, reps, setL, Nat.reduceMul]
  refine WS.pcallM (tb := tb) [8,5,7,6] Y rfl rfl rfl rfl rfl (by (try simp only [mapL, mapV, ll]) <;> exact rfl) (by simp [okL, okV, rmR, tsR, trR, arR, chM, rmM, tsM, trM, arM, bkL, bk0]; fail_if_success exfalso) rfl (by simp [embP, okL, okV, mapL, mapV, mem_next, mem_get, mem_ro, mapL_cellsR, okL_cellsR, rmR, tsR, trR, arR, chM, rmM, tsM, trM, arM, bkL, bk0]; fail_if_success exfalso) rfl ?_; rintro _ _ ⟨rfl, rfl⟩ -; simp only [plugL, setsL, newsL, isOwn, ownB, over, mapL, mapV, ll, Nat.reduceAdd, Nat.reduceLT, Nat.zero_add, if_true, if_false, Nat.reduceSub, reduceIte, mapL_cellsR, Nat.lt_irrefl, Nat.not_lt_zero, Nat.zero_lt_succ, Nat.lt_add_one, rmR, tsR, trR, arR, chM, rmM, tsM, trM, arM, bkL, bk0]
  refine WS.pcallM (tb := tb) [0,1,2,3,4,9] G rfl rfl rfl rfl rfl (by (try simp only [mapL, mapV, ll]) <;> exact rfl) (by simp [okL, okV, rmR, tsR, trR, arR, chM, rmM, tsM, trM, arM, bkL, bk0]; fail_if_success exfalso) rfl (by simp [embP, okL, okV, mapL, mapV, mem_next, mem_get, mem_ro, mapL_cellsR, okL_cellsR, rmR, tsR, trR, arR, chM, rmM, tsM, trM, arM, bkL, bk0]; fail_if_success exfalso) rfl ?_; rintro _ _ ⟨rfl, rfl⟩ -; simp only [plugL, setsL, newsL, isOwn, ownB, over, mapL, mapV, ll, Nat.reduceAdd, Nat.reduceLT, Nat.zero_add, if_true, if_false, Nat.reduceSub, reduceIte, mapL_cellsR, Nat.lt_irrefl, Nat.not_lt_zero, Nat.zero_lt_succ, Nat.lt_add_one, rmR, tsR, trR, arR, chM, rmM, tsM, trM, arM, bkL, bk0]
  refine WS.po (tb := tb) rfl rfl rfl rfl rfl ?_
  refine WS.pend rfl ?_
  refine WS.pret rfl ⟨.inr rfl, _, rfl, ?_⟩
  generalize chS most s (o1 :: old) (f1 :: fresh) = q
  exact ⟨_, rfl, [0,1,2,3], rmM cap most q, .i .i64 (chE most s (o1 :: old) (f1 :: fresh)), ⟨rfl, rfl, (by simp [viewP, okL, okV, mapL, mapV, mem_get, mapL_cellsR, okL_cellsR, rmM, tsM, trM, arM]), rfl⟩, rfl, trivial, rfl, rfl⟩
theorem set_111 (cap most : Nat) (s : TS) (lba n phys : Int) (o1 : Rn) (old : List Rn) (ah : Rn) (be : Rn) (f1 : Rn) (fresh : List Rn) (h : TOk most s) (hc : cap ≤ 512) (hm : most ≤ 512) (hr : rgt cap lba n = true) (hph : 0 ≤ phys) (hph2 : phys ≤ 1048576) (hb : ∀ r ∈ runsT s.T, RB r)
    (hcut : cutR lba n (runsT s.T) = ((o1 :: old), (some ah), (some be))) (hlay : layL [(some ah), some ⟨lba, n, phys⟩, (some be)] = (f1 :: fresh)) (hB : ∀ i : Nat, ∀ q ∈ lyT [(some ah), some ⟨lba, n, phys⟩, (some be)] i, RB q) (hR : ∀ r, some r ∈ ([(some ah), some ⟨lba, n, phys⟩, (some be)] : List (Option Rn)) → RB r) (hol : (o1 :: old).length ≤ 600) (hfl : ((f1 :: fresh) : List Rn).length ≤ 600)
    (C : s.n + ((f1 :: fresh) : List Rn).length ≤ most + (o1 :: old).length → Chg most s (o1 :: old) (f1 :: fresh)) :
    FM Try.prog 10 [.p (some (3,0)), .i .i64 lba, .i .i64 n, .i .i64 phys] (rmM cap most s) (fun v M' => v = .i .i64 (chE most s (o1 :: old) (f1 :: fresh)) ∧ M' = rmM cap most (chS most s (o1 :: old) (f1 :: fresh))) := by
  have R := rright_walk cap most s lba n hc
  rw [hr] at R
  have K := cut_walk cap most s lba n h hc hm hr hb
  simp only [hcut] at K
  have Y := lay3_walk (some ah) (some ⟨lba, n, phys⟩) (some be) hB hR
  simp only [hlay] at Y
  have G := change_any cap most s (o1 :: old) (f1 :: fresh) h hm hol hfl C
  simp only [slP, ptP, bkL, bkP, bkQ, bk0, lyM3] at K Y G
  refine FM.pbodyV (tb := tb) (fn := Try.f10) rfl rfl ?_
  simp only [argS, Nat.reduceAdd, rmM, tsM, trM, arM, List.length_cons, List.length_nil, List.cons_append, List.nil_append]
  refine WS.pseq rfl ?_
  refine WS.pregion rfl ?_
  refine WS.po (tb := tb) rfl rfl rfl rfl rfl ?_
  refine WS.pend rfl ?_
  refine WS.pseq rfl ?_
  refine WS.pseq rfl ?_
  refine WS.pregion rfl ?_
  refine WS.po (tb := tb) rfl rfl rfl rfl rfl ?_
  refine WS.po (tb := tb) rfl rfl rfl rfl rfl ?_
  refine WS.po (tb := tb) rfl rfl rfl rfl rfl ?_
  refine WS.pcallM (tb := tb) [0,1,2,3] R rfl rfl rfl rfl rfl (by (try simp only [mapL, mapV, ll]) <;> exact rfl) (by simp [okL, okV, rmR, tsR, trR, arR, chM, rmM, tsM, trM, arM, bkL, bk0]; fail_if_success exfalso) rfl (by simp [embP, okL, okV, mapL, mapV, mem_next, mem_get, mem_ro, mapL_cellsR, okL_cellsR, rmR, tsR, trR, arR, chM, rmM, tsM, trM, arM, bkL, bk0]; fail_if_success exfalso) rfl ?_; rintro _ _ ⟨rfl, rfl⟩ -; simp only [plugL, setsL, newsL, isOwn, ownB, over, mapL, mapV, ll, Nat.reduceAdd, Nat.reduceLT, Nat.zero_add, if_true, if_false, Nat.reduceSub, reduceIte, mapL_cellsR, Nat.lt_irrefl, Nat.not_lt_zero, Nat.zero_lt_succ, Nat.lt_add_one, rmR, tsR, trR, arR, chM, rmM, tsM, trM, arM, bkL, bk0]
  refine WS.poB (tb := tb) false rfl rfl rfl rfl rfl rfl ?_
  refine WS.po (tb := tb) rfl rfl rfl rfl rfl ?_
  refine WS.po (tb := tb) rfl rfl rfl rfl rfl ?_
  refine WS.poDF (tb := tb) rfl rfl rfl rfl rfl (by omega) ?_
  refine WS.po (tb := tb) rfl rfl rfl rfl rfl ?_
  refine WS.po (tb := tb) rfl rfl rfl rfl rfl ?_
  refine WS.po (tb := tb) rfl rfl rfl rfl rfl ?_
  refine WS.poDF (tb := tb) rfl rfl rfl rfl rfl (by omega) ?_
  refine WS.po (tb := tb) rfl rfl rfl rfl rfl ?_
  refine WS.pend rfl ?_
  refine WS.pcondF rfl rfl ?_
  refine WS.pskip rfl ?_
  refine WS.pseq rfl ?_
  refine WS.pregion rfl ?_
  refine WS.po (tb := tb) rfl rfl rfl rfl rfl ?_
  refine WS.po (tb := tb) rfl rfl rfl rfl rfl ?_
  refine WS.po (tb := tb) rfl rfl rfl rfl rfl ?_
  refine WS.pcallM (tb := tb) [0,1,2,3] K rfl rfl rfl rfl rfl (by (try simp only [mapL, mapV, ll]) <;> exact rfl) (by simp [okL, okV, rmR, tsR, trR, arR, chM, rmM, tsM, trM, arM, bkL, bk0]; fail_if_success exfalso) rfl (by simp [embP, okL, okV, mapL, mapV, mem_next, mem_get, mem_ro, mapL_cellsR, okL_cellsR, rmR, tsR, trR, arR, chM, rmM, tsM, trM, arM, bkL, bk0]; fail_if_success exfalso) rfl ?_; rintro _ _ ⟨rfl, rfl⟩ -; simp only [plugL, setsL, newsL, isOwn, ownB, over, mapL, mapV, ll, Nat.reduceAdd, Nat.reduceLT, Nat.zero_add, if_true, if_false, Nat.reduceSub, reduceIte, mapL_cellsR, Nat.lt_irrefl, Nat.not_lt_zero, Nat.zero_lt_succ, Nat.lt_add_one, rmR, tsR, trR, arR, chM, rmM, tsM, trM, arM, bkL, bk0]
  refine WS.po (tb := tb) rfl rfl rfl rfl rfl ?_
  refine WS.po (tb := tb) rfl rfl rfl rfl rfl ?_
  refine WS.po (tb := tb) rfl rfl rfl rfl rfl ?_
  refine WS.po (tb := tb) rfl rfl rfl rfl rfl ?_
  refine WS.po (tb := tb) rfl rfl rfl rfl rfl ?_
  refine WS.po (tb := tb) rfl rfl rfl rfl rfl ?_
  refine WS.po (tb := tb) rfl rfl rfl rfl rfl ?_
  refine WS.pend rfl ?_
  refine WS.pseq rfl ?_
  refine WS.pregion rfl ?_
  refine WS.po (tb := tb) rfl rfl rfl rfl rfl ?_
  refine WS.po (tb := tb) rfl rfl rfl rfl rfl ?_
  refine WS.po (tb := tb) rfl rfl rfl rfl rfl ?_
  refine WS.po (tb := tb) rfl rfl rfl rfl rfl ?_
  refine WS.po (tb := tb) rfl rfl rfl rfl rfl ?_
  refine WS.po (tb := tb) rfl rfl rfl rfl rfl ?_
  refine WS.poA (tb := tb) rfl rfl rfl rfl rfl (by simp only [vcells, setL, ll, nl, nz, Nat.reduceAdd, Nat.reduceMul, Int.reduceToNat]; exact rfl) ?_
  refine WS.po (tb := tb) rfl rfl rfl rfl rfl ?_; rw [new_mem]; simp only [ll, vcells, mem_next, Nat.zero_add, Nat.zero_mul, Nat.reduceAdd, reps, setL, Nat.reduceMul]
  refine WS.po (tb := tb) rfl rfl rfl rfl rfl ?_
  refine WS.po (tb := tb) rfl rfl rfl rfl rfl ?_; rw [new_mem]; simp only [ll, vcells, mem_next, Nat.zero_add, Nat.zero_mul, Nat.reduceAdd, reps, setL, Nat.reduceMul]
  refine WS.pcallM (tb := tb) [8,5,7,6] Y rfl rfl rfl rfl rfl (by (try simp only [mapL, mapV, ll]) <;> exact rfl) (by simp [okL, okV, rmR, tsR, trR, arR, chM, rmM, tsM, trM, arM, bkL, bk0]; fail_if_success exfalso) rfl (by simp [embP, okL, okV, mapL, mapV, mem_next, mem_get, mem_ro, mapL_cellsR, okL_cellsR, rmR, tsR, trR, arR, chM, rmM, tsM, trM, arM, bkL, bk0]; fail_if_success exfalso) rfl ?_; rintro _ _ ⟨rfl, rfl⟩ -; simp only [plugL, setsL, newsL, isOwn, ownB, over, mapL, mapV, ll, Nat.reduceAdd, Nat.reduceLT, Nat.zero_add, if_true, if_false, Nat.reduceSub, reduceIte, mapL_cellsR, Nat.lt_irrefl, Nat.not_lt_zero, Nat.zero_lt_succ, Nat.lt_add_one, rmR, tsR, trR, arR, chM, rmM, tsM, trM, arM, bkL, bk0]
  refine WS.pcallM (tb := tb) [0,1,2,3,4,9] G rfl rfl rfl rfl rfl (by (try simp only [mapL, mapV, ll]) <;> exact rfl) (by simp [okL, okV, rmR, tsR, trR, arR, chM, rmM, tsM, trM, arM, bkL, bk0]; fail_if_success exfalso) rfl (by simp [embP, okL, okV, mapL, mapV, mem_next, mem_get, mem_ro, mapL_cellsR, okL_cellsR, rmR, tsR, trR, arR, chM, rmM, tsM, trM, arM, bkL, bk0]; fail_if_success exfalso) rfl ?_; rintro _ _ ⟨rfl, rfl⟩ -; simp only [plugL, setsL, newsL, isOwn, ownB, over, mapL, mapV, ll, Nat.reduceAdd, Nat.reduceLT, Nat.zero_add, if_true, if_false, Nat.reduceSub, reduceIte, mapL_cellsR, Nat.lt_irrefl, Nat.not_lt_zero, Nat.zero_lt_succ, Nat.lt_add_one, rmR, tsR, trR, arR, chM, rmM, tsM, trM, arM, bkL, bk0]
  refine WS.po (tb := tb) rfl rfl rfl rfl rfl ?_
  refine WS.pend rfl ?_
  refine WS.pret rfl ⟨.inr rfl, _, rfl, ?_⟩
  generalize chS most s (o1 :: old) (f1 :: fresh) = q
  exact ⟨_, rfl, [0,1,2,3], rmM cap most q, .i .i64 (chE most s (o1 :: old) (f1 :: fresh)), ⟨rfl, rfl, (by simp [viewP, okL, okV, mapL, mapV, mem_get, mapL_cellsR, okL_cellsR, rmM, tsM, trM, arM]), rfl⟩, rfl, trivial, rfl, rfl⟩
theorem clr_000 (cap most : Nat) (s : TS) (lba n : Int) (h : TOk most s) (hc : cap ≤ 512) (hm : most ≤ 512) (hr : rgt cap lba n = true) (hb : ∀ r ∈ runsT s.T, RB r)
    (hcut : cutR lba n (runsT s.T) = (([] : List Rn), none, none)) (hlay : layL [none, none] = []) (hB : ∀ i : Nat, ∀ q ∈ lyT [none, none] i, RB q) (hR : ∀ r, some r ∈ ([none, none] : List (Option Rn)) → RB r) (hol : ([] : List Rn).length ≤ 600) (hfl : ([] : List Rn).length ≤ 600)
    (C : s.n + ([] : List Rn).length ≤ most + ([] : List Rn).length → Chg most s ([] : List Rn) []) :
    FM Try.prog 11 [.p (some (3,0)), .i .i64 lba, .i .i64 n] (rmM cap most s) (fun v M' => v = .i .i64 (chE most s ([] : List Rn) []) ∧ M' = rmM cap most (chS most s ([] : List Rn) [])) := by
  have R := rright_walk cap most s lba n hc
  rw [hr] at R
  have K := cut_walk cap most s lba n h hc hm hr hb
  simp only [hcut] at K
  have Y := lay2_walk none none hB hR
  simp only [hlay] at Y
  have G := change_any cap most s ([] : List Rn) [] h hm hol hfl C
  simp only [slP, ptP, bkL, bkP, bkQ, bk0, lyM2] at K Y G
  refine FM.pbodyV (tb := tb) (fn := Try.f11) rfl rfl ?_
  simp only [argS, Nat.reduceAdd, rmM, tsM, trM, arM, List.length_cons, List.length_nil, List.cons_append, List.nil_append]
  refine WS.pseq rfl ?_
  refine WS.pregion rfl ?_
  refine WS.po (tb := tb) rfl rfl rfl rfl rfl ?_
  refine WS.pend rfl ?_
  refine WS.pseq rfl ?_
  refine WS.pseq rfl ?_
  refine WS.pregion rfl ?_
  refine WS.po (tb := tb) rfl rfl rfl rfl rfl ?_
  refine WS.po (tb := tb) rfl rfl rfl rfl rfl ?_
  refine WS.po (tb := tb) rfl rfl rfl rfl rfl ?_
  refine WS.pcallM (tb := tb) [0,1,2,3] R rfl rfl rfl rfl rfl (by (try simp only [mapL, mapV, ll]) <;> exact rfl) (by simp [okL, okV, rmR, tsR, trR, arR, chM, rmM, tsM, trM, arM, bkL, bk0]; fail_if_success exfalso) rfl (by simp [embP, okL, okV, mapL, mapV, mem_next, mem_get, mem_ro, mapL_cellsR, okL_cellsR, rmR, tsR, trR, arR, chM, rmM, tsM, trM, arM, bkL, bk0]; fail_if_success exfalso) rfl ?_; rintro _ _ ⟨rfl, rfl⟩ -; simp only [plugL, setsL, newsL, isOwn, ownB, over, mapL, mapV, ll, Nat.reduceAdd, Nat.reduceLT, Nat.zero_add, if_true, if_false, Nat.reduceSub, reduceIte, mapL_cellsR, Nat.lt_irrefl, Nat.not_lt_zero, Nat.zero_lt_succ, Nat.lt_add_one, rmR, tsR, trR, arR, chM, rmM, tsM, trM, arM, bkL, bk0]
  refine WS.poB (tb := tb) false rfl rfl rfl rfl rfl rfl ?_
  refine WS.pend rfl ?_
  refine WS.pcondF rfl rfl ?_
  refine WS.pskip rfl ?_
  refine WS.pseq rfl ?_
  refine WS.pregion rfl ?_
  refine WS.po (tb := tb) rfl rfl rfl rfl rfl ?_
  refine WS.po (tb := tb) rfl rfl rfl rfl rfl ?_
  refine WS.po (tb := tb) rfl rfl rfl rfl rfl ?_
  refine WS.pcallM (tb := tb) [0,1,2,3] K rfl rfl rfl rfl rfl (by (try simp only [mapL, mapV, ll]) <;> exact rfl) (by simp [okL, okV, rmR, tsR, trR, arR, chM, rmM, tsM, trM, arM, bkL, bk0]; fail_if_success exfalso) rfl (by simp [embP, okL, okV, mapL, mapV, mem_next, mem_get, mem_ro, mapL_cellsR, okL_cellsR, rmR, tsR, trR, arR, chM, rmM, tsM, trM, arM, bkL, bk0]; fail_if_success exfalso) rfl ?_; rintro _ _ ⟨rfl, rfl⟩ -; simp only [plugL, setsL, newsL, isOwn, ownB, over, mapL, mapV, ll, Nat.reduceAdd, Nat.reduceLT, Nat.zero_add, if_true, if_false, Nat.reduceSub, reduceIte, mapL_cellsR, Nat.lt_irrefl, Nat.not_lt_zero, Nat.zero_lt_succ, Nat.lt_add_one, rmR, tsR, trR, arR, chM, rmM, tsM, trM, arM, bkL, bk0]
  refine WS.po (tb := tb) rfl rfl rfl rfl rfl ?_
  refine WS.po (tb := tb) rfl rfl rfl rfl rfl ?_
  refine WS.po (tb := tb) rfl rfl rfl rfl rfl ?_
  refine WS.po (tb := tb) rfl rfl rfl rfl rfl ?_
  refine WS.po (tb := tb) rfl rfl rfl rfl rfl ?_
  refine WS.po (tb := tb) rfl rfl rfl rfl rfl ?_
  refine WS.po (tb := tb) rfl rfl rfl rfl rfl ?_
  refine WS.pend rfl ?_
  refine WS.pseq rfl ?_
  refine WS.pregion rfl ?_
  refine WS.po (tb := tb) rfl rfl rfl rfl rfl ?_
  refine WS.po (tb := tb) rfl rfl rfl rfl rfl ?_
  refine WS.po (tb := tb) rfl rfl rfl rfl rfl ?_
  refine WS.po (tb := tb) rfl rfl rfl rfl rfl ?_
  refine WS.po (tb := tb) rfl rfl rfl rfl rfl ?_; rw [new_mem]; simp only [ll, vcells, mem_next, Nat.zero_add, Nat.zero_mul, Nat.reduceAdd, reps, setL, Nat.reduceMul]
  refine WS.pcallM (tb := tb) [7,5,6] Y rfl rfl rfl rfl rfl (by (try simp only [mapL, mapV, ll]) <;> exact rfl) (by simp [okL, okV, rmR, tsR, trR, arR, chM, rmM, tsM, trM, arM, bkL, bk0]; fail_if_success exfalso) rfl (by simp [embP, okL, okV, mapL, mapV, mem_next, mem_get, mem_ro, mapL_cellsR, okL_cellsR, rmR, tsR, trR, arR, chM, rmM, tsM, trM, arM, bkL, bk0]; fail_if_success exfalso) rfl ?_; rintro _ _ ⟨rfl, rfl⟩ -; simp only [plugL, setsL, newsL, isOwn, ownB, over, mapL, mapV, ll, Nat.reduceAdd, Nat.reduceLT, Nat.zero_add, if_true, if_false, Nat.reduceSub, reduceIte, mapL_cellsR, Nat.lt_irrefl, Nat.not_lt_zero, Nat.zero_lt_succ, Nat.lt_add_one, rmR, tsR, trR, arR, chM, rmM, tsM, trM, arM, bkL, bk0]
  refine WS.pcallM (tb := tb) [0,1,2,3,4,8] G rfl rfl rfl rfl rfl (by (try simp only [mapL, mapV, ll]) <;> exact rfl) (by simp [okL, okV, rmR, tsR, trR, arR, chM, rmM, tsM, trM, arM, bkL, bk0]; fail_if_success exfalso) rfl (by simp [embP, okL, okV, mapL, mapV, mem_next, mem_get, mem_ro, mapL_cellsR, okL_cellsR, rmR, tsR, trR, arR, chM, rmM, tsM, trM, arM, bkL, bk0]; fail_if_success exfalso) rfl ?_; rintro _ _ ⟨rfl, rfl⟩ -; simp only [plugL, setsL, newsL, isOwn, ownB, over, mapL, mapV, ll, Nat.reduceAdd, Nat.reduceLT, Nat.zero_add, if_true, if_false, Nat.reduceSub, reduceIte, mapL_cellsR, Nat.lt_irrefl, Nat.not_lt_zero, Nat.zero_lt_succ, Nat.lt_add_one, rmR, tsR, trR, arR, chM, rmM, tsM, trM, arM, bkL, bk0]
  refine WS.po (tb := tb) rfl rfl rfl rfl rfl ?_
  refine WS.pend rfl ?_
  refine WS.pret rfl ⟨.inr rfl, _, rfl, ?_⟩
  generalize chS most s ([] : List Rn) [] = q
  exact ⟨_, rfl, [0,1,2,3], rmM cap most q, .i .i64 (chE most s ([] : List Rn) []), ⟨rfl, rfl, (by simp [viewP, okL, okV, mapL, mapV, mem_get, mapL_cellsR, okL_cellsR, rmM, tsM, trM, arM]), rfl⟩, rfl, trivial, rfl, rfl⟩
theorem clr_100 (cap most : Nat) (s : TS) (lba n : Int) (o1 : Rn) (old : List Rn) (h : TOk most s) (hc : cap ≤ 512) (hm : most ≤ 512) (hr : rgt cap lba n = true) (hb : ∀ r ∈ runsT s.T, RB r)
    (hcut : cutR lba n (runsT s.T) = ((o1 :: old), none, none)) (hlay : layL [none, none] = []) (hB : ∀ i : Nat, ∀ q ∈ lyT [none, none] i, RB q) (hR : ∀ r, some r ∈ ([none, none] : List (Option Rn)) → RB r) (hol : (o1 :: old).length ≤ 600) (hfl : ([] : List Rn).length ≤ 600)
    (C : s.n + ([] : List Rn).length ≤ most + (o1 :: old).length → Chg most s (o1 :: old) []) :
    FM Try.prog 11 [.p (some (3,0)), .i .i64 lba, .i .i64 n] (rmM cap most s) (fun v M' => v = .i .i64 (chE most s (o1 :: old) []) ∧ M' = rmM cap most (chS most s (o1 :: old) [])) := by
  have R := rright_walk cap most s lba n hc
  rw [hr] at R
  have K := cut_walk cap most s lba n h hc hm hr hb
  simp only [hcut] at K
  have Y := lay2_walk none none hB hR
  simp only [hlay] at Y
  have G := change_any cap most s (o1 :: old) [] h hm hol hfl C
  simp only [slP, ptP, bkL, bkP, bkQ, bk0, lyM2] at K Y G
  refine FM.pbodyV (tb := tb) (fn := Try.f11) rfl rfl ?_
  simp only [argS, Nat.reduceAdd, rmM, tsM, trM, arM, List.length_cons, List.length_nil, List.cons_append, List.nil_append]
  refine WS.pseq rfl ?_
  refine WS.pregion rfl ?_
  refine WS.po (tb := tb) rfl rfl rfl rfl rfl ?_
  refine WS.pend rfl ?_
  refine WS.pseq rfl ?_
  refine WS.pseq rfl ?_
  refine WS.pregion rfl ?_
  refine WS.po (tb := tb) rfl rfl rfl rfl rfl ?_
  refine WS.po (tb := tb) rfl rfl rfl rfl rfl ?_
  refine WS.po (tb := tb) rfl rfl rfl rfl rfl ?_
  refine WS.pcallM (tb := tb) [0,1,2,3] R rfl rfl rfl rfl rfl (by (try simp only [mapL, mapV, ll]) <;> exact rfl) (by simp [okL, okV, rmR, tsR, trR, arR, chM, rmM, tsM, trM, arM, bkL, bk0]; fail_if_success exfalso) rfl (by simp [embP, okL, okV, mapL, mapV, mem_next, mem_get, mem_ro, mapL_cellsR, okL_cellsR, rmR, tsR, trR, arR, chM, rmM, tsM, trM, arM, bkL, bk0]; fail_if_success exfalso) rfl ?_; rintro _ _ ⟨rfl, rfl⟩ -; simp only [plugL, setsL, newsL, isOwn, ownB, over, mapL, mapV, ll, Nat.reduceAdd, Nat.reduceLT, Nat.zero_add, if_true, if_false, Nat.reduceSub, reduceIte, mapL_cellsR, Nat.lt_irrefl, Nat.not_lt_zero, Nat.zero_lt_succ, Nat.lt_add_one, rmR, tsR, trR, arR, chM, rmM, tsM, trM, arM, bkL, bk0]
  refine WS.poB (tb := tb) false rfl rfl rfl rfl rfl rfl ?_
  refine WS.pend rfl ?_
  refine WS.pcondF rfl rfl ?_
  refine WS.pskip rfl ?_
  refine WS.pseq rfl ?_
  refine WS.pregion rfl ?_
  refine WS.po (tb := tb) rfl rfl rfl rfl rfl ?_
  refine WS.po (tb := tb) rfl rfl rfl rfl rfl ?_
  refine WS.po (tb := tb) rfl rfl rfl rfl rfl ?_
  refine WS.pcallM (tb := tb) [0,1,2,3] K rfl rfl rfl rfl rfl (by (try simp only [mapL, mapV, ll]) <;> exact rfl) (by simp [okL, okV, rmR, tsR, trR, arR, chM, rmM, tsM, trM, arM, bkL, bk0]; fail_if_success exfalso) rfl (by simp [embP, okL, okV, mapL, mapV, mem_next, mem_get, mem_ro, mapL_cellsR, okL_cellsR, rmR, tsR, trR, arR, chM, rmM, tsM, trM, arM, bkL, bk0]; fail_if_success exfalso) rfl ?_; rintro _ _ ⟨rfl, rfl⟩ -; simp only [plugL, setsL, newsL, isOwn, ownB, over, mapL, mapV, ll, Nat.reduceAdd, Nat.reduceLT, Nat.zero_add, if_true, if_false, Nat.reduceSub, reduceIte, mapL_cellsR, Nat.lt_irrefl, Nat.not_lt_zero, Nat.zero_lt_succ, Nat.lt_add_one, rmR, tsR, trR, arR, chM, rmM, tsM, trM, arM, bkL, bk0]
  refine WS.po (tb := tb) rfl rfl rfl rfl rfl ?_
  refine WS.po (tb := tb) rfl rfl rfl rfl rfl ?_
  refine WS.po (tb := tb) rfl rfl rfl rfl rfl ?_
  refine WS.po (tb := tb) rfl rfl rfl rfl rfl ?_
  refine WS.po (tb := tb) rfl rfl rfl rfl rfl ?_
  refine WS.po (tb := tb) rfl rfl rfl rfl rfl ?_
  refine WS.po (tb := tb) rfl rfl rfl rfl rfl ?_
  refine WS.pend rfl ?_
  refine WS.pseq rfl ?_
  refine WS.pregion rfl ?_
  refine WS.po (tb := tb) rfl rfl rfl rfl rfl ?_
  refine WS.po (tb := tb) rfl rfl rfl rfl rfl ?_
  refine WS.po (tb := tb) rfl rfl rfl rfl rfl ?_
  refine WS.po (tb := tb) rfl rfl rfl rfl rfl ?_
  refine WS.po (tb := tb) rfl rfl rfl rfl rfl ?_; rw [new_mem]; simp only [ll, vcells, mem_next, Nat.zero_add, Nat.zero_mul, Nat.reduceAdd, reps, setL, Nat.reduceMul]
  refine WS.pcallM (tb := tb) [7,5,6] Y rfl rfl rfl rfl rfl (by (try simp only [mapL, mapV, ll]) <;> exact rfl) (by simp [okL, okV, rmR, tsR, trR, arR, chM, rmM, tsM, trM, arM, bkL, bk0]; fail_if_success exfalso) rfl (by simp [embP, okL, okV, mapL, mapV, mem_next, mem_get, mem_ro, mapL_cellsR, okL_cellsR, rmR, tsR, trR, arR, chM, rmM, tsM, trM, arM, bkL, bk0]; fail_if_success exfalso) rfl ?_; rintro _ _ ⟨rfl, rfl⟩ -; simp only [plugL, setsL, newsL, isOwn, ownB, over, mapL, mapV, ll, Nat.reduceAdd, Nat.reduceLT, Nat.zero_add, if_true, if_false, Nat.reduceSub, reduceIte, mapL_cellsR, Nat.lt_irrefl, Nat.not_lt_zero, Nat.zero_lt_succ, Nat.lt_add_one, rmR, tsR, trR, arR, chM, rmM, tsM, trM, arM, bkL, bk0]
  refine WS.pcallM (tb := tb) [0,1,2,3,4,8] G rfl rfl rfl rfl rfl (by (try simp only [mapL, mapV, ll]) <;> exact rfl) (by simp [okL, okV, rmR, tsR, trR, arR, chM, rmM, tsM, trM, arM, bkL, bk0]; fail_if_success exfalso) rfl (by simp [embP, okL, okV, mapL, mapV, mem_next, mem_get, mem_ro, mapL_cellsR, okL_cellsR, rmR, tsR, trR, arR, chM, rmM, tsM, trM, arM, bkL, bk0]; fail_if_success exfalso) rfl ?_; rintro _ _ ⟨rfl, rfl⟩ -; simp only [plugL, setsL, newsL, isOwn, ownB, over, mapL, mapV, ll, Nat.reduceAdd, Nat.reduceLT, Nat.zero_add, if_true, if_false, Nat.reduceSub, reduceIte, mapL_cellsR, Nat.lt_irrefl, Nat.not_lt_zero, Nat.zero_lt_succ, Nat.lt_add_one, rmR, tsR, trR, arR, chM, rmM, tsM, trM, arM, bkL, bk0]
  refine WS.po (tb := tb) rfl rfl rfl rfl rfl ?_
  refine WS.pend rfl ?_
  refine WS.pret rfl ⟨.inr rfl, _, rfl, ?_⟩
  generalize chS most s (o1 :: old) [] = q
  exact ⟨_, rfl, [0,1,2,3], rmM cap most q, .i .i64 (chE most s (o1 :: old) []), ⟨rfl, rfl, (by simp [viewP, okL, okV, mapL, mapV, mem_get, mapL_cellsR, okL_cellsR, rmM, tsM, trM, arM]), rfl⟩, rfl, trivial, rfl, rfl⟩
theorem clr_101 (cap most : Nat) (s : TS) (lba n : Int) (o1 : Rn) (old : List Rn) (be : Rn) (f1 : Rn) (fresh : List Rn) (h : TOk most s) (hc : cap ≤ 512) (hm : most ≤ 512) (hr : rgt cap lba n = true) (hb : ∀ r ∈ runsT s.T, RB r)
    (hcut : cutR lba n (runsT s.T) = ((o1 :: old), none, (some be))) (hlay : layL [none, (some be)] = (f1 :: fresh)) (hB : ∀ i : Nat, ∀ q ∈ lyT [none, (some be)] i, RB q) (hR : ∀ r, some r ∈ ([none, (some be)] : List (Option Rn)) → RB r) (hol : (o1 :: old).length ≤ 600) (hfl : ((f1 :: fresh) : List Rn).length ≤ 600)
    (C : s.n + ((f1 :: fresh) : List Rn).length ≤ most + (o1 :: old).length → Chg most s (o1 :: old) (f1 :: fresh)) :
    FM Try.prog 11 [.p (some (3,0)), .i .i64 lba, .i .i64 n] (rmM cap most s) (fun v M' => v = .i .i64 (chE most s (o1 :: old) (f1 :: fresh)) ∧ M' = rmM cap most (chS most s (o1 :: old) (f1 :: fresh))) := by
  have R := rright_walk cap most s lba n hc
  rw [hr] at R
  have K := cut_walk cap most s lba n h hc hm hr hb
  simp only [hcut] at K
  have Y := lay2_walk none (some be) hB hR
  simp only [hlay] at Y
  have G := change_any cap most s (o1 :: old) (f1 :: fresh) h hm hol hfl C
  simp only [slP, ptP, bkL, bkP, bkQ, bk0, lyM2] at K Y G
  refine FM.pbodyV (tb := tb) (fn := Try.f11) rfl rfl ?_
  simp only [argS, Nat.reduceAdd, rmM, tsM, trM, arM, List.length_cons, List.length_nil, List.cons_append, List.nil_append]
  refine WS.pseq rfl ?_
  refine WS.pregion rfl ?_
  refine WS.po (tb := tb) rfl rfl rfl rfl rfl ?_
  refine WS.pend rfl ?_
  refine WS.pseq rfl ?_
  refine WS.pseq rfl ?_
  refine WS.pregion rfl ?_
  refine WS.po (tb := tb) rfl rfl rfl rfl rfl ?_
  refine WS.po (tb := tb) rfl rfl rfl rfl rfl ?_
  refine WS.po (tb := tb) rfl rfl rfl rfl rfl ?_
  refine WS.pcallM (tb := tb) [0,1,2,3] R rfl rfl rfl rfl rfl (by (try simp only [mapL, mapV, ll]) <;> exact rfl) (by simp [okL, okV, rmR, tsR, trR, arR, chM, rmM, tsM, trM, arM, bkL, bk0]; fail_if_success exfalso) rfl (by simp [embP, okL, okV, mapL, mapV, mem_next, mem_get, mem_ro, mapL_cellsR, okL_cellsR, rmR, tsR, trR, arR, chM, rmM, tsM, trM, arM, bkL, bk0]; fail_if_success exfalso) rfl ?_; rintro _ _ ⟨rfl, rfl⟩ -; simp only [plugL, setsL, newsL, isOwn, ownB, over, mapL, mapV, ll, Nat.reduceAdd, Nat.reduceLT, Nat.zero_add, if_true, if_false, Nat.reduceSub, reduceIte, mapL_cellsR, Nat.lt_irrefl, Nat.not_lt_zero, Nat.zero_lt_succ, Nat.lt_add_one, rmR, tsR, trR, arR, chM, rmM, tsM, trM, arM, bkL, bk0]
  refine WS.poB (tb := tb) false rfl rfl rfl rfl rfl rfl ?_
  refine WS.pend rfl ?_
  refine WS.pcondF rfl rfl ?_
  refine WS.pskip rfl ?_
  refine WS.pseq rfl ?_
  refine WS.pregion rfl ?_
  refine WS.po (tb := tb) rfl rfl rfl rfl rfl ?_
  refine WS.po (tb := tb) rfl rfl rfl rfl rfl ?_
  refine WS.po (tb := tb) rfl rfl rfl rfl rfl ?_
  refine WS.pcallM (tb := tb) [0,1,2,3] K rfl rfl rfl rfl rfl (by (try simp only [mapL, mapV, ll]) <;> exact rfl) (by simp [okL, okV, rmR, tsR, trR, arR, chM, rmM, tsM, trM, arM, bkL, bk0]; fail_if_success exfalso) rfl (by simp [embP, okL, okV, mapL, mapV, mem_next, mem_get, mem_ro, mapL_cellsR, okL_cellsR, rmR, tsR, trR, arR, chM, rmM, tsM, trM, arM, bkL, bk0]; fail_if_success exfalso) rfl ?_; rintro _ _ ⟨rfl, rfl⟩ -; simp only [plugL, setsL, newsL, isOwn, ownB, over, mapL, mapV, ll, Nat.reduceAdd, Nat.reduceLT, Nat.zero_add, if_true, if_false, Nat.reduceSub, reduceIte, mapL_cellsR, Nat.lt_irrefl, Nat.not_lt_zero, Nat.zero_lt_succ, Nat.lt_add_one, rmR, tsR, trR, arR, chM, rmM, tsM, trM, arM, bkL, bk0]
  refine WS.po (tb := tb) rfl rfl rfl rfl rfl ?_
  refine WS.po (tb := tb) rfl rfl rfl rfl rfl ?_
  refine WS.po (tb := tb) rfl rfl rfl rfl rfl ?_
  refine WS.po (tb := tb) rfl rfl rfl rfl rfl ?_
  refine WS.po (tb := tb) rfl rfl rfl rfl rfl ?_
  refine WS.po (tb := tb) rfl rfl rfl rfl rfl ?_
  refine WS.po (tb := tb) rfl rfl rfl rfl rfl ?_
  refine WS.pend rfl ?_
  refine WS.pseq rfl ?_
  refine WS.pregion rfl ?_
  refine WS.po (tb := tb) rfl rfl rfl rfl rfl ?_
  refine WS.po (tb := tb) rfl rfl rfl rfl rfl ?_
  refine WS.po (tb := tb) rfl rfl rfl rfl rfl ?_
  refine WS.po (tb := tb) rfl rfl rfl rfl rfl ?_
  refine WS.po (tb := tb) rfl rfl rfl rfl rfl ?_; rw [new_mem]; simp only [ll, vcells, mem_next, Nat.zero_add, Nat.zero_mul, Nat.reduceAdd, reps, setL, Nat.reduceMul]
  refine WS.pcallM (tb := tb) [7,5,6] Y rfl rfl rfl rfl rfl (by (try simp only [mapL, mapV, ll]) <;> exact rfl) (by simp [okL, okV, rmR, tsR, trR, arR, chM, rmM, tsM, trM, arM, bkL, bk0]; fail_if_success exfalso) rfl (by simp [embP, okL, okV, mapL, mapV, mem_next, mem_get, mem_ro, mapL_cellsR, okL_cellsR, rmR, tsR, trR, arR, chM, rmM, tsM, trM, arM, bkL, bk0]; fail_if_success exfalso) rfl ?_; rintro _ _ ⟨rfl, rfl⟩ -; simp only [plugL, setsL, newsL, isOwn, ownB, over, mapL, mapV, ll, Nat.reduceAdd, Nat.reduceLT, Nat.zero_add, if_true, if_false, Nat.reduceSub, reduceIte, mapL_cellsR, Nat.lt_irrefl, Nat.not_lt_zero, Nat.zero_lt_succ, Nat.lt_add_one, rmR, tsR, trR, arR, chM, rmM, tsM, trM, arM, bkL, bk0]
  refine WS.pcallM (tb := tb) [0,1,2,3,4,8] G rfl rfl rfl rfl rfl (by (try simp only [mapL, mapV, ll]) <;> exact rfl) (by simp [okL, okV, rmR, tsR, trR, arR, chM, rmM, tsM, trM, arM, bkL, bk0]; fail_if_success exfalso) rfl (by simp [embP, okL, okV, mapL, mapV, mem_next, mem_get, mem_ro, mapL_cellsR, okL_cellsR, rmR, tsR, trR, arR, chM, rmM, tsM, trM, arM, bkL, bk0]; fail_if_success exfalso) rfl ?_; rintro _ _ ⟨rfl, rfl⟩ -; simp only [plugL, setsL, newsL, isOwn, ownB, over, mapL, mapV, ll, Nat.reduceAdd, Nat.reduceLT, Nat.zero_add, if_true, if_false, Nat.reduceSub, reduceIte, mapL_cellsR, Nat.lt_irrefl, Nat.not_lt_zero, Nat.zero_lt_succ, Nat.lt_add_one, rmR, tsR, trR, arR, chM, rmM, tsM, trM, arM, bkL, bk0]
  refine WS.po (tb := tb) rfl rfl rfl rfl rfl ?_
  refine WS.pend rfl ?_
  refine WS.pret rfl ⟨.inr rfl, _, rfl, ?_⟩
  generalize chS most s (o1 :: old) (f1 :: fresh) = q
  exact ⟨_, rfl, [0,1,2,3], rmM cap most q, .i .i64 (chE most s (o1 :: old) (f1 :: fresh)), ⟨rfl, rfl, (by simp [viewP, okL, okV, mapL, mapV, mem_get, mapL_cellsR, okL_cellsR, rmM, tsM, trM, arM]), rfl⟩, rfl, trivial, rfl, rfl⟩
theorem clr_110 (cap most : Nat) (s : TS) (lba n : Int) (o1 : Rn) (old : List Rn) (ah : Rn) (f1 : Rn) (fresh : List Rn) (h : TOk most s) (hc : cap ≤ 512) (hm : most ≤ 512) (hr : rgt cap lba n = true) (hb : ∀ r ∈ runsT s.T, RB r)
    (hcut : cutR lba n (runsT s.T) = ((o1 :: old), (some ah), none)) (hlay : layL [(some ah), none] = (f1 :: fresh)) (hB : ∀ i : Nat, ∀ q ∈ lyT [(some ah), none] i, RB q) (hR : ∀ r, some r ∈ ([(some ah), none] : List (Option Rn)) → RB r) (hol : (o1 :: old).length ≤ 600) (hfl : ((f1 :: fresh) : List Rn).length ≤ 600)
    (C : s.n + ((f1 :: fresh) : List Rn).length ≤ most + (o1 :: old).length → Chg most s (o1 :: old) (f1 :: fresh)) :
    FM Try.prog 11 [.p (some (3,0)), .i .i64 lba, .i .i64 n] (rmM cap most s) (fun v M' => v = .i .i64 (chE most s (o1 :: old) (f1 :: fresh)) ∧ M' = rmM cap most (chS most s (o1 :: old) (f1 :: fresh))) := by
  have R := rright_walk cap most s lba n hc
  rw [hr] at R
  have K := cut_walk cap most s lba n h hc hm hr hb
  simp only [hcut] at K
  have Y := lay2_walk (some ah) none hB hR
  simp only [hlay] at Y
  have G := change_any cap most s (o1 :: old) (f1 :: fresh) h hm hol hfl C
  simp only [slP, ptP, bkL, bkP, bkQ, bk0, lyM2] at K Y G
  refine FM.pbodyV (tb := tb) (fn := Try.f11) rfl rfl ?_
  simp only [argS, Nat.reduceAdd, rmM, tsM, trM, arM, List.length_cons, List.length_nil, List.cons_append, List.nil_append]
  refine WS.pseq rfl ?_
  refine WS.pregion rfl ?_
  refine WS.po (tb := tb) rfl rfl rfl rfl rfl ?_
  refine WS.pend rfl ?_
  refine WS.pseq rfl ?_
  refine WS.pseq rfl ?_
  refine WS.pregion rfl ?_
  refine WS.po (tb := tb) rfl rfl rfl rfl rfl ?_
  refine WS.po (tb := tb) rfl rfl rfl rfl rfl ?_
  refine WS.po (tb := tb) rfl rfl rfl rfl rfl ?_
  refine WS.pcallM (tb := tb) [0,1,2,3] R rfl rfl rfl rfl rfl (by (try simp only [mapL, mapV, ll]) <;> exact rfl) (by simp [okL, okV, rmR, tsR, trR, arR, chM, rmM, tsM, trM, arM, bkL, bk0]; fail_if_success exfalso) rfl (by simp [embP, okL, okV, mapL, mapV, mem_next, mem_get, mem_ro, mapL_cellsR, okL_cellsR, rmR, tsR, trR, arR, chM, rmM, tsM, trM, arM, bkL, bk0]; fail_if_success exfalso) rfl ?_; rintro _ _ ⟨rfl, rfl⟩ -; simp only [plugL, setsL, newsL, isOwn, ownB, over, mapL, mapV, ll, Nat.reduceAdd, Nat.reduceLT, Nat.zero_add, if_true, if_false, Nat.reduceSub, reduceIte, mapL_cellsR, Nat.lt_irrefl, Nat.not_lt_zero, Nat.zero_lt_succ, Nat.lt_add_one, rmR, tsR, trR, arR, chM, rmM, tsM, trM, arM, bkL, bk0]
  refine WS.poB (tb := tb) false rfl rfl rfl rfl rfl rfl ?_
  refine WS.pend rfl ?_
  refine WS.pcondF rfl rfl ?_
  refine WS.pskip rfl ?_
  refine WS.pseq rfl ?_
  refine WS.pregion rfl ?_
  refine WS.po (tb := tb) rfl rfl rfl rfl rfl ?_
  refine WS.po (tb := tb) rfl rfl rfl rfl rfl ?_
  refine WS.po (tb := tb) rfl rfl rfl rfl rfl ?_
  refine WS.pcallM (tb := tb) [0,1,2,3] K rfl rfl rfl rfl rfl (by (try simp only [mapL, mapV, ll]) <;> exact rfl) (by simp [okL, okV, rmR, tsR, trR, arR, chM, rmM, tsM, trM, arM, bkL, bk0]; fail_if_success exfalso) rfl (by simp [embP, okL, okV, mapL, mapV, mem_next, mem_get, mem_ro, mapL_cellsR, okL_cellsR, rmR, tsR, trR, arR, chM, rmM, tsM, trM, arM, bkL, bk0]; fail_if_success exfalso) rfl ?_; rintro _ _ ⟨rfl, rfl⟩ -; simp only [plugL, setsL, newsL, isOwn, ownB, over, mapL, mapV, ll, Nat.reduceAdd, Nat.reduceLT, Nat.zero_add, if_true, if_false, Nat.reduceSub, reduceIte, mapL_cellsR, Nat.lt_irrefl, Nat.not_lt_zero, Nat.zero_lt_succ, Nat.lt_add_one, rmR, tsR, trR, arR, chM, rmM, tsM, trM, arM, bkL, bk0]
  refine WS.po (tb := tb) rfl rfl rfl rfl rfl ?_
  refine WS.po (tb := tb) rfl rfl rfl rfl rfl ?_
  refine WS.po (tb := tb) rfl rfl rfl rfl rfl ?_
  refine WS.po (tb := tb) rfl rfl rfl rfl rfl ?_
  refine WS.po (tb := tb) rfl rfl rfl rfl rfl ?_
  refine WS.po (tb := tb) rfl rfl rfl rfl rfl ?_
  refine WS.po (tb := tb) rfl rfl rfl rfl rfl ?_
  refine WS.pend rfl ?_
  refine WS.pseq rfl ?_
  refine WS.pregion rfl ?_
  refine WS.po (tb := tb) rfl rfl rfl rfl rfl ?_
  refine WS.po (tb := tb) rfl rfl rfl rfl rfl ?_
  refine WS.po (tb := tb) rfl rfl rfl rfl rfl ?_
  refine WS.po (tb := tb) rfl rfl rfl rfl rfl ?_
  refine WS.po (tb := tb) rfl rfl rfl rfl rfl ?_; rw [new_mem]; simp only [ll, vcells, mem_next, Nat.zero_add, Nat.zero_mul, Nat.reduceAdd, reps, setL, Nat.reduceMul]
  refine WS.pcallM (tb := tb) [7,5,6] Y rfl rfl rfl rfl rfl (by (try simp only [mapL, mapV, ll]) <;> exact rfl) (by simp [okL, okV, rmR, tsR, trR, arR, chM, rmM, tsM, trM, arM, bkL, bk0]; fail_if_success exfalso) rfl (by simp [embP, okL, okV, mapL, mapV, mem_next, mem_get, mem_ro, mapL_cellsR, okL_cellsR, rmR, tsR, trR, arR, chM, rmM, tsM, trM, arM, bkL, bk0]; fail_if_success exfalso) rfl ?_; rintro _ _ ⟨rfl, rfl⟩ -; simp only [plugL, setsL, newsL, isOwn, ownB, over, mapL, mapV, ll, Nat.reduceAdd, Nat.reduceLT, Nat.zero_add, if_true, if_false, Nat.reduceSub, reduceIte, mapL_cellsR, Nat.lt_irrefl, Nat.not_lt_zero, Nat.zero_lt_succ, Nat.lt_add_one, rmR, tsR, trR, arR, chM, rmM, tsM, trM, arM, bkL, bk0]
  refine WS.pcallM (tb := tb) [0,1,2,3,4,8] G rfl rfl rfl rfl rfl (by (try simp only [mapL, mapV, ll]) <;> exact rfl) (by simp [okL, okV, rmR, tsR, trR, arR, chM, rmM, tsM, trM, arM, bkL, bk0]; fail_if_success exfalso) rfl (by simp [embP, okL, okV, mapL, mapV, mem_next, mem_get, mem_ro, mapL_cellsR, okL_cellsR, rmR, tsR, trR, arR, chM, rmM, tsM, trM, arM, bkL, bk0]; fail_if_success exfalso) rfl ?_; rintro _ _ ⟨rfl, rfl⟩ -; simp only [plugL, setsL, newsL, isOwn, ownB, over, mapL, mapV, ll, Nat.reduceAdd, Nat.reduceLT, Nat.zero_add, if_true, if_false, Nat.reduceSub, reduceIte, mapL_cellsR, Nat.lt_irrefl, Nat.not_lt_zero, Nat.zero_lt_succ, Nat.lt_add_one, rmR, tsR, trR, arR, chM, rmM, tsM, trM, arM, bkL, bk0]
  refine WS.po (tb := tb) rfl rfl rfl rfl rfl ?_
  refine WS.pend rfl ?_
  refine WS.pret rfl ⟨.inr rfl, _, rfl, ?_⟩
  generalize chS most s (o1 :: old) (f1 :: fresh) = q
  exact ⟨_, rfl, [0,1,2,3], rmM cap most q, .i .i64 (chE most s (o1 :: old) (f1 :: fresh)), ⟨rfl, rfl, (by simp [viewP, okL, okV, mapL, mapV, mem_get, mapL_cellsR, okL_cellsR, rmM, tsM, trM, arM]), rfl⟩, rfl, trivial, rfl, rfl⟩
theorem clr_111 (cap most : Nat) (s : TS) (lba n : Int) (o1 : Rn) (old : List Rn) (ah : Rn) (be : Rn) (f1 : Rn) (fresh : List Rn) (h : TOk most s) (hc : cap ≤ 512) (hm : most ≤ 512) (hr : rgt cap lba n = true) (hb : ∀ r ∈ runsT s.T, RB r)
    (hcut : cutR lba n (runsT s.T) = ((o1 :: old), (some ah), (some be))) (hlay : layL [(some ah), (some be)] = (f1 :: fresh)) (hB : ∀ i : Nat, ∀ q ∈ lyT [(some ah), (some be)] i, RB q) (hR : ∀ r, some r ∈ ([(some ah), (some be)] : List (Option Rn)) → RB r) (hol : (o1 :: old).length ≤ 600) (hfl : ((f1 :: fresh) : List Rn).length ≤ 600)
    (C : s.n + ((f1 :: fresh) : List Rn).length ≤ most + (o1 :: old).length → Chg most s (o1 :: old) (f1 :: fresh)) :
    FM Try.prog 11 [.p (some (3,0)), .i .i64 lba, .i .i64 n] (rmM cap most s) (fun v M' => v = .i .i64 (chE most s (o1 :: old) (f1 :: fresh)) ∧ M' = rmM cap most (chS most s (o1 :: old) (f1 :: fresh))) := by
  have R := rright_walk cap most s lba n hc
  rw [hr] at R
  have K := cut_walk cap most s lba n h hc hm hr hb
  simp only [hcut] at K
  have Y := lay2_walk (some ah) (some be) hB hR
  simp only [hlay] at Y
  have G := change_any cap most s (o1 :: old) (f1 :: fresh) h hm hol hfl C
  simp only [slP, ptP, bkL, bkP, bkQ, bk0, lyM2] at K Y G
  refine FM.pbodyV (tb := tb) (fn := Try.f11) rfl rfl ?_
  simp only [argS, Nat.reduceAdd, rmM, tsM, trM, arM, List.length_cons, List.length_nil, List.cons_append, List.nil_append]
  refine WS.pseq rfl ?_
  refine WS.pregion rfl ?_
  refine WS.po (tb := tb) rfl rfl rfl rfl rfl ?_
  refine WS.pend rfl ?_
  refine WS.pseq rfl ?_
  refine WS.pseq rfl ?_
  refine WS.pregion rfl ?_
  refine WS.po (tb := tb) rfl rfl rfl rfl rfl ?_
  refine WS.po (tb := tb) rfl rfl rfl rfl rfl ?_
  refine WS.po (tb := tb) rfl rfl rfl rfl rfl ?_
  refine WS.pcallM (tb := tb) [0,1,2,3] R rfl rfl rfl rfl rfl (by (try simp only [mapL, mapV, ll]) <;> exact rfl) (by simp [okL, okV, rmR, tsR, trR, arR, chM, rmM, tsM, trM, arM, bkL, bk0]; fail_if_success exfalso) rfl (by simp [embP, okL, okV, mapL, mapV, mem_next, mem_get, mem_ro, mapL_cellsR, okL_cellsR, rmR, tsR, trR, arR, chM, rmM, tsM, trM, arM, bkL, bk0]; fail_if_success exfalso) rfl ?_; rintro _ _ ⟨rfl, rfl⟩ -; simp only [plugL, setsL, newsL, isOwn, ownB, over, mapL, mapV, ll, Nat.reduceAdd, Nat.reduceLT, Nat.zero_add, if_true, if_false, Nat.reduceSub, reduceIte, mapL_cellsR, Nat.lt_irrefl, Nat.not_lt_zero, Nat.zero_lt_succ, Nat.lt_add_one, rmR, tsR, trR, arR, chM, rmM, tsM, trM, arM, bkL, bk0]
  refine WS.poB (tb := tb) false rfl rfl rfl rfl rfl rfl ?_
  refine WS.pend rfl ?_
  refine WS.pcondF rfl rfl ?_
  refine WS.pskip rfl ?_
  refine WS.pseq rfl ?_
  refine WS.pregion rfl ?_
  refine WS.po (tb := tb) rfl rfl rfl rfl rfl ?_
  refine WS.po (tb := tb) rfl rfl rfl rfl rfl ?_
  refine WS.po (tb := tb) rfl rfl rfl rfl rfl ?_
  refine WS.pcallM (tb := tb) [0,1,2,3] K rfl rfl rfl rfl rfl (by (try simp only [mapL, mapV, ll]) <;> exact rfl) (by simp [okL, okV, rmR, tsR, trR, arR, chM, rmM, tsM, trM, arM, bkL, bk0]; fail_if_success exfalso) rfl (by simp [embP, okL, okV, mapL, mapV, mem_next, mem_get, mem_ro, mapL_cellsR, okL_cellsR, rmR, tsR, trR, arR, chM, rmM, tsM, trM, arM, bkL, bk0]; fail_if_success exfalso) rfl ?_; rintro _ _ ⟨rfl, rfl⟩ -; simp only [plugL, setsL, newsL, isOwn, ownB, over, mapL, mapV, ll, Nat.reduceAdd, Nat.reduceLT, Nat.zero_add, if_true, if_false, Nat.reduceSub, reduceIte, mapL_cellsR, Nat.lt_irrefl, Nat.not_lt_zero, Nat.zero_lt_succ, Nat.lt_add_one, rmR, tsR, trR, arR, chM, rmM, tsM, trM, arM, bkL, bk0]
  refine WS.po (tb := tb) rfl rfl rfl rfl rfl ?_
  refine WS.po (tb := tb) rfl rfl rfl rfl rfl ?_
  refine WS.po (tb := tb) rfl rfl rfl rfl rfl ?_
  refine WS.po (tb := tb) rfl rfl rfl rfl rfl ?_
  refine WS.po (tb := tb) rfl rfl rfl rfl rfl ?_
  refine WS.po (tb := tb) rfl rfl rfl rfl rfl ?_
  refine WS.po (tb := tb) rfl rfl rfl rfl rfl ?_
  refine WS.pend rfl ?_
  refine WS.pseq rfl ?_
  refine WS.pregion rfl ?_
  refine WS.po (tb := tb) rfl rfl rfl rfl rfl ?_
  refine WS.po (tb := tb) rfl rfl rfl rfl rfl ?_
  refine WS.po (tb := tb) rfl rfl rfl rfl rfl ?_
  refine WS.po (tb := tb) rfl rfl rfl rfl rfl ?_
  refine WS.po (tb := tb) rfl rfl rfl rfl rfl ?_; rw [new_mem]; simp only [ll, vcells, mem_next, Nat.zero_add, Nat.zero_mul, Nat.reduceAdd, reps, setL, Nat.reduceMul]
  refine WS.pcallM (tb := tb) [7,5,6] Y rfl rfl rfl rfl rfl (by (try simp only [mapL, mapV, ll]) <;> exact rfl) (by simp [okL, okV, rmR, tsR, trR, arR, chM, rmM, tsM, trM, arM, bkL, bk0]; fail_if_success exfalso) rfl (by simp [embP, okL, okV, mapL, mapV, mem_next, mem_get, mem_ro, mapL_cellsR, okL_cellsR, rmR, tsR, trR, arR, chM, rmM, tsM, trM, arM, bkL, bk0]; fail_if_success exfalso) rfl ?_; rintro _ _ ⟨rfl, rfl⟩ -; simp only [plugL, setsL, newsL, isOwn, ownB, over, mapL, mapV, ll, Nat.reduceAdd, Nat.reduceLT, Nat.zero_add, if_true, if_false, Nat.reduceSub, reduceIte, mapL_cellsR, Nat.lt_irrefl, Nat.not_lt_zero, Nat.zero_lt_succ, Nat.lt_add_one, rmR, tsR, trR, arR, chM, rmM, tsM, trM, arM, bkL, bk0]
  refine WS.pcallM (tb := tb) [0,1,2,3,4,8] G rfl rfl rfl rfl rfl (by (try simp only [mapL, mapV, ll]) <;> exact rfl) (by simp [okL, okV, rmR, tsR, trR, arR, chM, rmM, tsM, trM, arM, bkL, bk0]; fail_if_success exfalso) rfl (by simp [embP, okL, okV, mapL, mapV, mem_next, mem_get, mem_ro, mapL_cellsR, okL_cellsR, rmR, tsR, trR, arR, chM, rmM, tsM, trM, arM, bkL, bk0]; fail_if_success exfalso) rfl ?_; rintro _ _ ⟨rfl, rfl⟩ -; simp only [plugL, setsL, newsL, isOwn, ownB, over, mapL, mapV, ll, Nat.reduceAdd, Nat.reduceLT, Nat.zero_add, if_true, if_false, Nat.reduceSub, reduceIte, mapL_cellsR, Nat.lt_irrefl, Nat.not_lt_zero, Nat.zero_lt_succ, Nat.lt_add_one, rmR, tsR, trR, arR, chM, rmM, tsM, trM, arM, bkL, bk0]
  refine WS.po (tb := tb) rfl rfl rfl rfl rfl ?_
  refine WS.pend rfl ?_
  refine WS.pret rfl ⟨.inr rfl, _, rfl, ?_⟩
  generalize chS most s (o1 :: old) (f1 :: fresh) = q
  exact ⟨_, rfl, [0,1,2,3], rmM cap most q, .i .i64 (chE most s (o1 :: old) (f1 :: fresh)), ⟨rfl, rfl, (by simp [viewP, okL, okV, mapL, mapV, mem_get, mapL_cellsR, okL_cellsR, rmM, tsM, trM, arM]), rfl⟩, rfl, trivial, rfl, rfl⟩
end Go.Proofs.Ytdeeancepelkiaa.Am

