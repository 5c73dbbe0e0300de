/- Set and Clear, whatever stands there. Conditions: those of each theorem. -/
import Derived.Test.YtdeeancepelkiaaRu11
namespace Go.Proofs.Ytdeeancepelkiaa.Am
open Go.Proofs
set_option maxRecDepth 1000000
set_option maxHeartbeats 4000000
set_option linter.unusedSimpArgs false
set_option linter.unusedVariables false
theorem set_bad (cap most : Nat) (s : TS) (lba n phys : Int) (hc : cap ≤ 512) (hx : ¬ (rgt cap lba n = true ∧ 0 ≤ phys ∧ phys ≤ 1048576)) :
    FM Try.prog 10 [.p (some (3,0)), .i .i64 lba, .i .i64 n, .i .i64 phys] (rmM cap most s) (fun v M' => v = .i .i64 1 ∧ M' = rmM cap most s) := by
  have R := rright_walk cap most s lba n hc
  cases hr : rgt cap lba n with
  | false =>
    rw [hr] at R
    refine FM.pbody (tb := tb) (fn := Try.f10) rfl rfl ?_
    simp only [argS, Nat.reduceAdd, rmM, tsM, trM, arM, List.length_cons, List.length_nil, List.cons_append, List.nil_append]
    refine WS.pseq rfl ?_
    refine WS.pregion rfl ?_
    refine WS.po (tb := tb) rfl rfl rfl rfl rfl ?_
    refine WS.pend rfl ?_
    refine WS.pseq rfl ?_
    refine WS.pseq rfl ?_
    refine WS.pregion rfl ?_
    refine WS.po (tb := tb) rfl rfl rfl rfl rfl ?_
    refine WS.po (tb := tb) rfl rfl rfl rfl rfl ?_
    refine WS.po (tb := tb) rfl rfl rfl rfl rfl ?_
    refine WS.pcallM (tb := tb) [0,1,2,3] R rfl rfl rfl rfl rfl (by (try simp only [mapL, mapV, ll]) <;> exact rfl) (by simp [okL, okV, rmR, tsR, trR, arR]; fail_if_success exfalso) rfl (by simp [embP, okL, okV, mapL, mapV, mem_next, mem_get, mem_ro, mapL_cellsR, okL_cellsR, rmR, tsR, trR, arR]; fail_if_success exfalso) rfl ?_; rintro _ _ ⟨rfl, rfl⟩ -; simp only [plugL, setsL, newsL, isOwn, ownB, over, mapL, mapV, ll, Nat.reduceAdd, Nat.reduceLT, Nat.zero_add, if_true, if_false, Nat.reduceSub, reduceIte, mapL_cellsR, Nat.lt_irrefl, Nat.not_lt_zero, Nat.zero_lt_succ, Nat.lt_add_one, rmR, tsR, trR, arR]
    refine WS.poB (tb := tb) true rfl rfl rfl rfl rfl rfl ?_
    refine WS.po (tb := tb) rfl rfl rfl rfl rfl ?_
    refine WS.pono rfl rfl rfl rfl ?_
    refine WS.pono rfl rfl rfl rfl ?_
    refine WS.po (tb := tb) rfl rfl rfl rfl rfl ?_
    refine WS.po (tb := tb) rfl rfl rfl rfl rfl ?_
    refine WS.pono rfl rfl rfl rfl ?_
    refine WS.pono rfl rfl rfl rfl ?_
    refine WS.po (tb := tb) rfl rfl rfl rfl rfl ?_
    refine WS.pend rfl ?_
    refine WS.pcondT rfl rfl ?_
    refine WS.pseq rfl ?_
    refine WS.pregion rfl ?_
    refine WS.po (tb := tb) rfl rfl rfl rfl rfl ?_
    refine WS.pend rfl ?_
    refine WS.pret rfl ⟨.inr rfl, _, rfl, ?_⟩
    exact ⟨_, rfl, rfl, rfl⟩
  | true =>
    rw [hr] at R
    have hph : ¬ (0 ≤ phys ∧ phys ≤ 1048576) := fun h => hx ⟨hr, h⟩
    refine FM.pbody (tb := tb) (fn := Try.f10) rfl rfl ?_
    simp only [argS, Nat.reduceAdd, rmM, tsM, trM, arM, List.length_cons, List.length_nil, List.cons_append, List.nil_append]
    by_cases h0 : phys < 0
    · refine WS.pseq rfl ?_
      refine WS.pregion rfl ?_
      refine WS.po (tb := tb) rfl rfl rfl rfl rfl ?_
      refine WS.pend rfl ?_
      refine WS.pseq rfl ?_
      refine WS.pseq rfl ?_
      refine WS.pregion rfl ?_
      refine WS.po (tb := tb) rfl rfl rfl rfl rfl ?_
      refine WS.po (tb := tb) rfl rfl rfl rfl rfl ?_
      refine WS.po (tb := tb) rfl rfl rfl rfl rfl ?_
      refine WS.pcallM (tb := tb) [0,1,2,3] R rfl rfl rfl rfl rfl (by (try simp only [mapL, mapV, ll]) <;> exact rfl) (by simp [okL, okV, rmR, tsR, trR, arR]; fail_if_success exfalso) rfl (by simp [embP, okL, okV, mapL, mapV, mem_next, mem_get, mem_ro, mapL_cellsR, okL_cellsR, rmR, tsR, trR, arR]; fail_if_success exfalso) rfl ?_; rintro _ _ ⟨rfl, rfl⟩ -; simp only [plugL, setsL, newsL, isOwn, ownB, over, mapL, mapV, ll, Nat.reduceAdd, Nat.reduceLT, Nat.zero_add, if_true, if_false, Nat.reduceSub, reduceIte, mapL_cellsR, Nat.lt_irrefl, Nat.not_lt_zero, Nat.zero_lt_succ, Nat.lt_add_one, rmR, tsR, trR, arR]
      refine WS.poB (tb := tb) false rfl rfl rfl rfl rfl rfl ?_
      refine WS.po (tb := tb) rfl rfl rfl rfl rfl ?_
      refine WS.po (tb := tb) rfl rfl rfl rfl rfl ?_
      refine WS.poDT (tb := tb) rfl rfl rfl rfl rfl (by omega) ?_
      refine WS.po (tb := tb) rfl rfl rfl rfl rfl ?_
      refine WS.po (tb := tb) rfl rfl rfl rfl rfl ?_
      refine WS.pono rfl rfl rfl rfl ?_
      refine WS.pono rfl rfl rfl rfl ?_
      refine WS.po (tb := tb) rfl rfl rfl rfl rfl ?_
      refine WS.pend rfl ?_
      refine WS.pcondT rfl rfl ?_
      refine WS.pseq rfl ?_
      refine WS.pregion rfl ?_
      refine WS.po (tb := tb) rfl rfl rfl rfl rfl ?_
      refine WS.pend rfl ?_
      refine WS.pret rfl ⟨.inr rfl, _, rfl, ?_⟩
      exact ⟨_, rfl, rfl, rfl⟩
    · refine WS.pseq rfl ?_
      refine WS.pregion rfl ?_
      refine WS.po (tb := tb) rfl rfl rfl rfl rfl ?_
      refine WS.pend rfl ?_
      refine WS.pseq rfl ?_
      refine WS.pseq rfl ?_
      refine WS.pregion rfl ?_
      refine WS.po (tb := tb) rfl rfl rfl rfl rfl ?_
      refine WS.po (tb := tb) rfl rfl rfl rfl rfl ?_
      refine WS.po (tb := tb) rfl rfl rfl rfl rfl ?_
      refine WS.pcallM (tb := tb) [0,1,2,3] R rfl rfl rfl rfl rfl (by (try simp only [mapL, mapV, ll]) <;> exact rfl) (by simp [okL, okV, rmR, tsR, trR, arR]; fail_if_success exfalso) rfl (by simp [embP, okL, okV, mapL, mapV, mem_next, mem_get, mem_ro, mapL_cellsR, okL_cellsR, rmR, tsR, trR, arR]; fail_if_success exfalso) rfl ?_; rintro _ _ ⟨rfl, rfl⟩ -; simp only [plugL, setsL, newsL, isOwn, ownB, over, mapL, mapV, ll, Nat.reduceAdd, Nat.reduceLT, Nat.zero_add, if_true, if_false, Nat.reduceSub, reduceIte, mapL_cellsR, Nat.lt_irrefl, Nat.not_lt_zero, Nat.zero_lt_succ, Nat.lt_add_one, rmR, tsR, trR, arR]
      refine WS.poB (tb := tb) false rfl rfl rfl rfl rfl rfl ?_
      refine WS.po (tb := tb) rfl rfl rfl rfl rfl ?_
      refine WS.po (tb := tb) rfl rfl rfl rfl rfl ?_
      refine WS.poDF (tb := tb) rfl rfl rfl rfl rfl (by omega) ?_
      refine WS.po (tb := tb) rfl rfl rfl rfl rfl ?_
      refine WS.po (tb := tb) rfl rfl rfl rfl rfl ?_
      refine WS.po (tb := tb) rfl rfl rfl rfl rfl ?_
      refine WS.poDT (tb := tb) rfl rfl rfl rfl rfl (by omega) ?_
      refine WS.po (tb := tb) rfl rfl rfl rfl rfl ?_
      refine WS.pend rfl ?_
      refine WS.pcondT rfl rfl ?_
      refine WS.pseq rfl ?_
      refine WS.pregion rfl ?_
      refine WS.po (tb := tb) rfl rfl rfl rfl rfl ?_
      refine WS.pend rfl ?_
      refine WS.pret rfl ⟨.inr rfl, _, rfl, ?_⟩
      exact ⟨_, rfl, rfl, rfl⟩
theorem clr_bad (cap most : Nat) (s : TS) (lba n : Int) (hc : cap ≤ 512) (hx : rgt cap lba n = false) :
    FM Try.prog 11 [.p (some (3,0)), .i .i64 lba, .i .i64 n] (rmM cap most s) (fun v M' => v = .i .i64 1 ∧ M' = rmM cap most s) := by
  have R := rright_walk cap most s lba n hc
  rw [hx] at R
  refine FM.pbody (tb := tb) (fn := Try.f11) rfl rfl ?_
  simp only [argS, Nat.reduceAdd, rmM, tsM, trM, arM, List.length_cons, List.length_nil, List.cons_append, List.nil_append]
  refine WS.pseq rfl ?_
  refine WS.pregion rfl ?_
  refine WS.po (tb := tb) rfl rfl rfl rfl rfl ?_
  refine WS.pend rfl ?_
  refine WS.pseq rfl ?_
  refine WS.pseq rfl ?_
  refine WS.pregion rfl ?_
  refine WS.po (tb := tb) rfl rfl rfl rfl rfl ?_
  refine WS.po (tb := tb) rfl rfl rfl rfl rfl ?_
  refine WS.po (tb := tb) rfl rfl rfl rfl rfl ?_
  refine WS.pcallM (tb := tb) [0,1,2,3] R rfl rfl rfl rfl rfl (by (try simp only [mapL, mapV, ll]) <;> exact rfl) (by simp [okL, okV, rmR, tsR, trR, arR]; fail_if_success exfalso) rfl (by simp [embP, okL, okV, mapL, mapV, mem_next, mem_get, mem_ro, mapL_cellsR, okL_cellsR, rmR, tsR, trR, arR]; fail_if_success exfalso) rfl ?_; rintro _ _ ⟨rfl, rfl⟩ -; simp only [plugL, setsL, newsL, isOwn, ownB, over, mapL, mapV, ll, Nat.reduceAdd, Nat.reduceLT, Nat.zero_add, if_true, if_false, Nat.reduceSub, reduceIte, mapL_cellsR, Nat.lt_irrefl, Nat.not_lt_zero, Nat.zero_lt_succ, Nat.lt_add_one, rmR, tsR, trR, arR]
  refine WS.poB (tb := tb) true rfl rfl rfl rfl rfl rfl ?_
  refine WS.pend rfl ?_
  refine WS.pcondT rfl rfl ?_
  refine WS.pseq rfl ?_
  refine WS.pregion rfl ?_
  refine WS.po (tb := tb) rfl rfl rfl rfl rfl ?_
  refine WS.pend rfl ?_
  refine WS.pret rfl ⟨.inr rfl, _, rfl, ?_⟩
  exact ⟨_, rfl, rfl, rfl⟩
theorem lay3_ne (a : Option Rn) (v : Rn) (b : Option Rn) : layL [a, some v, b] ≠ [] := by
  show layS (layS (layS [] a) (some v)) b ≠ []
  exact layS_ne (.inl (layS_ne (.inr (by simp))))
theorem lay2_ne (a b : Option Rn) (h : a ≠ none ∨ b ≠ none) : layL [a, b] ≠ [] := by
  show layS (layS [] a) b ≠ []
  rcases h with h | h
  · exact layS_ne (.inl (layS_ne (.inr h)))
  · exact layS_ne (.inr h)
theorem some_cons {l : List Rn} (h : l ≠ []) : ∃ x t, l = x :: t := by
  cases l with
  | nil => exact absurd rfl h
  | cons x t => exact ⟨x, t, rfl⟩
theorem set_fine (cap most : Nat) (s : TS) (lba n phys : Int) (h : ROk cap most s) (hc : cap ≤ 512) (hm : most ≤ 512) (hr : rgt cap lba n = true) (hp : 0 ≤ phys) (hp2 : phys ≤ 1048576) :
    FM Try.prog 10 [.p (some (3,0)), .i .i64 lba, .i .i64 n, .i .i64 phys] (rmM cap most s) (fun v M' => v = .i .i64 (chE most s (cutR lba n (runsT s.T)).1 (frS lba n phys (runsT s.T))) ∧ M' = rmM cap most (chS most s (cutR lba n (runsT s.T)).1 (frS lba n phys (runsT s.T)))) := by
  have hn : 1 ≤ n := by simp only [rgt, decide_eq_true_eq] at hr; exact hr.1
  have hb : ∀ r ∈ runsT s.T, RB r := fun r hr => rg_rb (h.nf.rg r hr) hc
  obtain ⟨p1, p2, p3⟩ := set_parts h hr hp hp2 hc
  obtain ⟨q1, q2⟩ := li_rb hc p1 p2
  have hch := fun hx => (chg_ok h.ok h.nf hn p3 hx).1
  have hnil := cutR_nil (lba := lba) (n := n) (L := runsT s.T)
  have hlen := cutR_len (lba := lba) (n := n) (L := runsT s.T)
  rw [runsT_len] at hlen
  have hle := h.ok.le
  simp only [TS.n] at hle
  have hfl := layL_len [(cutR lba n (runsT s.T)).2.1, some ⟨lba, n, phys⟩, (cutR lba n (runsT s.T)).2.2]
  simp only [List.length_cons, List.length_nil] at hfl
  simp only [frS] at hch ⊢
  rcases hcut : cutR lba n (runsT s.T) with ⟨o, ah, be⟩
  rw [hcut] at q1 q2 hch hnil hlen hfl
  simp only [hcut] at q1 q2 hch hnil hlen hfl ⊢
  rcases o with _ | ⟨o1, old⟩
  · obtain ⟨e1, e2⟩ := hnil rfl
    subst e1; subst e2
    obtain ⟨f1, fresh, hlay⟩ := some_cons (l := layL [none, some ⟨lba, n, phys⟩, none]) (lay3_ne _ _ _)
    rw [hlay] at hch hfl ⊢
    exact set_000 cap most s lba n phys f1 fresh h.ok hc hm hr hp hp2 hb hcut hlay q1 q2 (by simp only [List.length_cons, List.length_nil] at hlen ⊢; omega) (by simp only [List.length_cons] at hfl ⊢; omega) hch
  · rcases ah with _ | ah <;> rcases be with _ | be
    · skip
      obtain ⟨f1, fresh, hlay⟩ := some_cons (l := layL [none, some ⟨lba, n, phys⟩, none]) (lay3_ne _ _ _)
      rw [hlay] at hch hfl ⊢
      exact set_100 cap most s lba n phys o1 old f1 fresh h.ok hc hm hr hp hp2 hb hcut hlay q1 q2 (by simp only [List.length_cons, List.length_nil] at hlen ⊢; omega) (by simp only [List.length_cons] at hfl ⊢; omega) hch
    · skip
      obtain ⟨f1, fresh, hlay⟩ := some_cons (l := layL [none, some ⟨lba, n, phys⟩, some be]) (lay3_ne _ _ _)
      rw [hlay] at hch hfl ⊢
      exact set_101 cap most s lba n phys o1 old be f1 fresh h.ok hc hm hr hp hp2 hb hcut hlay q1 q2 (by simp only [List.length_cons, List.length_nil] at hlen ⊢; omega) (by simp only [List.length_cons] at hfl ⊢; omega) hch
    · skip
      obtain ⟨f1, fresh, hlay⟩ := some_cons (l := layL [some ah, some ⟨lba, n, phys⟩, none]) (lay3_ne _ _ _)
      rw [hlay] at hch hfl ⊢
      exact set_110 cap most s lba n phys o1 old ah f1 fresh h.ok hc hm hr hp hp2 hb hcut hlay q1 q2 (by simp only [List.length_cons, List.length_nil] at hlen ⊢; omega) (by simp only [List.length_cons] at hfl ⊢; omega) hch
    · skip
      obtain ⟨f1, fresh, hlay⟩ := some_cons (l := layL [some ah, some ⟨lba, n, phys⟩, some be]) (lay3_ne _ _ _)
      rw [hlay] at hch hfl ⊢
      exact set_111 cap most s lba n phys o1 old ah be f1 fresh h.ok hc hm hr hp hp2 hb hcut hlay q1 q2 (by simp only [List.length_cons, List.length_nil] at hlen ⊢; omega) (by simp only [List.length_cons] at hfl ⊢; omega) hch
theorem clr_fine (cap most : Nat) (s : TS) (lba n : Int) (h : ROk cap most s) (hc : cap ≤ 512) (hm : most ≤ 512) (hr : rgt cap lba n = true) :
    FM Try.prog 11 [.p (some (3,0)), .i .i64 lba, .i .i64 n] (rmM cap most s) (fun v M' => v = .i .i64 (chE most s (cutR lba n (runsT s.T)).1 (frC lba n (runsT s.T))) ∧ M' = rmM cap most (chS most s (cutR lba n (runsT s.T)).1 (frC lba n (runsT s.T)))) := by
  have hn : 1 ≤ n := by simp only [rgt, decide_eq_true_eq] at hr; exact hr.1
  have hb : ∀ r ∈ runsT s.T, RB r := fun r hr => rg_rb (h.nf.rg r hr) hc
  obtain ⟨p1, p2, p3⟩ := clr_parts h hr  hc
  obtain ⟨q1, q2⟩ := li_rb hc p1 p2
  have hch := fun hx => (chg_ok h.ok h.nf hn p3 hx).1
  have hnil := cutR_nil (lba := lba) (n := n) (L := runsT s.T)
  have hlen := cutR_len (lba := lba) (n := n) (L := runsT s.T)
  rw [runsT_len] at hlen
  have hle := h.ok.le
  simp only [TS.n] at hle
  have hfl := layL_len [(cutR lba n (runsT s.T)).2.1, (cutR lba n (runsT s.T)).2.2]
  simp only [List.length_cons, List.length_nil] at hfl
  simp only [frC] at hch ⊢
  rcases hcut : cutR lba n (runsT s.T) with ⟨o, ah, be⟩
  rw [hcut] at q1 q2 hch hnil hlen hfl
  simp only [hcut] at q1 q2 hch hnil hlen hfl ⊢
  rcases o with _ | ⟨o1, old⟩
  · obtain ⟨e1, e2⟩ := hnil rfl
    subst e1; subst e2
    have hlay : layL [none, none] = [] := rfl
    rw [hlay] at hch hfl ⊢
    exact clr_000 cap most s lba n h.ok hc hm hr hb hcut hlay q1 q2 (by simp only [List.length_cons, List.length_nil] at hlen ⊢; omega) (by simp) hch
  · rcases ah with _ | ah <;> rcases be with _ | be
    · skip
      have hlay : layL [none, none] = [] := rfl
      rw [hlay] at hch hfl ⊢
      exact clr_100 cap most s lba n o1 old h.ok hc hm hr hb hcut hlay q1 q2 (by simp only [List.length_cons, List.length_nil] at hlen ⊢; omega) (by simp) hch
    · skip
      obtain ⟨f1, fresh, hlay⟩ := some_cons (l := layL [none, some be]) (lay2_ne _ _ (.inr (by simp)))
      rw [hlay] at hch hfl ⊢
      exact clr_101 cap most s lba n o1 old be f1 fresh h.ok hc hm hr hb hcut hlay q1 q2 (by simp only [List.length_cons, List.length_nil] at hlen ⊢; omega) (by simp only [List.length_cons] at hfl ⊢; omega) hch
    · skip
      obtain ⟨f1, fresh, hlay⟩ := some_cons (l := layL [some ah, none]) (lay2_ne _ _ (.inl (by simp)))
      rw [hlay] at hch hfl ⊢
      exact clr_110 cap most s lba n o1 old ah f1 fresh h.ok hc hm hr hb hcut hlay q1 q2 (by simp only [List.length_cons, List.length_nil] at hlen ⊢; omega) (by simp only [List.length_cons] at hfl ⊢; omega) hch
    · skip
      obtain ⟨f1, fresh, hlay⟩ := some_cons (l := layL [some ah, some be]) (lay2_ne _ _ (.inr (by simp)))
      rw [hlay] at hch hfl ⊢
      exact clr_111 cap most s lba n o1 old ah be f1 fresh h.ok hc hm hr hb hcut hlay q1 q2 (by simp only [List.length_cons, List.length_nil] at hlen ⊢; omega) (by simp only [List.length_cons] at hfl ⊢; omega) hch
end Go.Proofs.Ytdeeancepelkiaa.Am

