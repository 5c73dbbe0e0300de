/- Set and Clear where there is always room; Get. Conditions: those of each theorem. -/
import Derived.Test.YtdeeancepelkiaaRu12
namespace Go.Proofs.Ytdeeancepelkiaa.Am
open Go.Proofs
set_option maxRecDepth 1000000
set_option maxHeartbeats 4000000
set_option linter.unusedSimpArgs false
set_option linter.unusedVariables false
theorem fits_most {cap : Nat} {s : TS} {lba n : Int} {W : Int → Int → Prop} {F : List Rn} (h : ROk cap 512 s) (hc : cap ≤ 512) (hn : 1 ≤ n) (hF : FS cap (runsT s.T) lba n W F) : s.n + F.length ≤ 512 + (cutR lba n (runsT s.T)).1.length := by
  have h1 := newL_len (F := F) h.nf (lba := lba) hn
  have h2 := nf_len (newL_nf h.nf hn hF).1 (by omega)
  have h3 := runsT_len s.T
  simp only [TS.n]; omega
def okS (cap : Int) (lba n phys : Int) : Prop := rgt cap lba n = true ∧ 0 ≤ phys ∧ phys ≤ 1048576
instance (cap lba n phys : Int) : Decidable (okS cap lba n phys) := by unfold okS; infer_instance
/-- The map behind Set, behind Clear. -/
def setT (cap : Nat) (s : TS) (lba n phys : Int) : TS := if okS cap lba n phys then insL' 512 (delL s (cutR lba n (runsT s.T)).1) (frS lba n phys (runsT s.T)) else s
def clrT (cap : Nat) (s : TS) (lba n : Int) : TS := if rgt cap lba n = true then insL' 512 (delL s (cutR lba n (runsT s.T)).1) (frC lba n (runsT s.T)) else s
def rmN (cap : Nat) (s : TS) : List (Option Blk) := rmM cap 512 s
theorem set_all {cap : Nat} {s : TS} (lba n phys : Int) (h : ROk cap 512 s) (hc : cap ≤ 512) :
    FM Try.prog 10 [.p (some (3,0)), .i .i64 lba, .i .i64 n, .i .i64 phys] (rmM cap 512 s) (fun v M' => v = .i .i64 (if okS cap lba n phys then 0 else 1) ∧ M' = rmM cap 512 (setT cap s lba n phys)) := by
  unfold setT
  by_cases hx : okS cap lba n phys
  · have hx' := hx
    obtain ⟨hr, hp, hp2⟩ := hx'
    have hn : 1 ≤ n := by simp only [rgt, decide_eq_true_eq] at hr; exact hr.1
    have hf := fits_most h hc hn (set_parts h hr hp hp2 hc).2.2
    have := set_fine cap 512 s lba n phys h hc (by omega) hr hp hp2
    simp only [chE, chS, if_pos hf] at this
    rw [if_pos hx, if_pos hx]; exact this
  · rw [if_neg hx, if_neg hx]; exact set_bad cap 512 s lba n phys hc hx
theorem clr_all {cap : Nat} {s : TS} (lba n : Int) (h : ROk cap 512 s) (hc : cap ≤ 512) :
    FM Try.prog 11 [.p (some (3,0)), .i .i64 lba, .i .i64 n] (rmM cap 512 s) (fun v M' => v = .i .i64 (if rgt cap lba n = true then 0 else 1) ∧ M' = rmM cap 512 (clrT cap s lba n)) := by
  unfold clrT
  by_cases hr : rgt cap lba n = true
  · have hn : 1 ≤ n := by simp only [rgt, decide_eq_true_eq] at hr; exact hr.1
    have hf := fits_most h hc hn (clr_parts h hr hc).2.2
    have := clr_fine cap 512 s lba n h hc (by omega) hr
    simp only [chE, chS, if_pos hf] at this
    rw [if_pos hr, if_pos hr]; exact this
  · rw [if_neg hr, if_neg hr]; exact clr_bad cap 512 s lba n hc (by simpa using hr)
theorem setT_ok {cap : Nat} {s : TS} (lba n phys : Int) (h : ROk cap 512 s) (hc : cap ≤ 512) : ROk cap 512 (setT cap s lba n phys) ∧ ∀ x p, PG (runsT (setT cap s lba n phys).T) x p ↔ if okS cap lba n phys ∧ lba ≤ x ∧ x < lba + n then p = phys + (x - lba) else PG (runsT s.T) x p := by
  unfold setT
  by_cases hx : okS cap lba n phys
  · rw [if_pos hx]
    have hx' := hx
    obtain ⟨hr, hp, hp2⟩ := hx'
    have hn : 1 ≤ n := by simp only [rgt, decide_eq_true_eq] at hr; exact hr.1
    have hF := (set_parts h hr hp hp2 hc).2.2
    have hf := fits_most h hc hn hF
    obtain ⟨_, e⟩ := chg_ok h.ok h.nf hn hF hf
    obtain ⟨n1, n2⟩ := newL_nf h.nf hn hF
    refine ⟨⟨insL_ok _ (delL_ok _ h.ok), by rw [e]; exact n1⟩, fun x p => ?_⟩
    rw [e, n2]
    by_cases hi : lba ≤ x ∧ x < lba + n
    · rw [if_pos ⟨hx, hi⟩]
      constructor
      · rintro (⟨_, _, h3⟩ | ⟨h3, _⟩)
        · exact h3
        · omega
      · exact fun h3 => .inl ⟨hi.1, hi.2, h3⟩
    · rw [if_neg fun h3 => hi h3.2]
      constructor
      · rintro (⟨h1, h2, _⟩ | ⟨_, h3⟩)
        · exact absurd ⟨h1, h2⟩ hi
        · exact h3
      · exact fun h3 => .inr ⟨by omega, h3⟩
  · rw [if_neg hx]
    exact ⟨h, fun x p => by rw [if_neg fun h3 => hx h3.1]⟩
theorem clrT_ok {cap : Nat} {s : TS} (lba n : Int) (h : ROk cap 512 s) (hc : cap ≤ 512) : ROk cap 512 (clrT cap s lba n) ∧ ∀ x p, PG (runsT (clrT cap s lba n).T) x p ↔ if rgt cap lba n = true ∧ lba ≤ x ∧ x < lba + n then False else PG (runsT s.T) x p := by
  unfold clrT
  by_cases hr : rgt cap lba n = true
  · rw [if_pos hr]
    have hn : 1 ≤ n := by simp only [rgt, decide_eq_true_eq] at hr; exact hr.1
    have hF := (clr_parts h hr hc).2.2
    have hf := fits_most h hc hn hF
    obtain ⟨_, e⟩ := chg_ok h.ok h.nf hn hF hf
    obtain ⟨n1, n2⟩ := newL_nf h.nf hn hF
    refine ⟨⟨insL_ok _ (delL_ok _ h.ok), by rw [e]; exact n1⟩, fun x p => ?_⟩
    rw [e, n2]
    by_cases hi : lba ≤ x ∧ x < lba + n
    · rw [if_pos ⟨hr, hi⟩]
      constructor
      · rintro (⟨_, _, h3⟩ | ⟨h3, _⟩)
        · exact h3
        · omega
      · exact fun h3 => h3.elim
    · rw [if_neg fun h3 => hi h3.2]
      constructor
      · rintro (⟨h1, h2, _⟩ | ⟨_, h3⟩)
        · exact absurd ⟨h1, h2⟩ hi
        · exact h3
      · exact fun h3 => .inr ⟨by omega, h3⟩
  · rw [if_neg hr]
    exact ⟨h, fun x p => by rw [if_neg fun h3 => hr h3.1]⟩
theorem newR_ok (cap : Nat) : ROk cap 512 ⟨iniP 512 512, 1, .lf⟩ := ⟨newS_ok 512 (by omega), ⟨by simp [runsT, Tr.ino], by simp [runsT, Tr.ino], by simp [runsT, Tr.ino]⟩⟩
def getR (k : Int) (L : List Rn) : Option Int := match floorR k L none with
  | none => none
  | some r => if k < r.a + r.b then some (r.c + k - r.a) else none
theorem getR_pg {cap : Int} {L : List Rn} (h : NF cap L) (k p : Int) : getR k L = some p ↔ PG L k p := by
  have F := floorR_last (k := k) (L := L) none h.srt (fun q hq => by cases hq)
  unfold getR
  cases hf : floorR k L none with
  | none =>
    constructor
    · intro h2; cases h2
    · rintro ⟨r, hr, c⟩; exact absurd c.1 (F.2 hf r hr)
  | some r =>
    obtain ⟨hr, hra⟩ : r ∈ L ∧ r.a ≤ k := by rcases floorR_mem hf with h1 | h1; exact h1; cases h1
    by_cases hk : k < r.a + r.b
    · simp only [if_pos hk, Option.some.injEq]
      constructor
      · intro e; exact ⟨r, hr, hra, hk, by omega⟩
      · rintro ⟨q, hq, c⟩
        have c1 := c.1; have c2 := c.2.1; have c3 := c.2.2
        rcases h.apart hq hr with e | e | e
        · subst e; omega
        · omega
        · omega
    · simp only [if_neg hk]
      constructor
      · intro e; cases e
      · rintro ⟨q, hq, c⟩
        have c1 := c.1; have c2 := c.2.1
        have := F.1 r hf q hq c1
        rcases h.apart hq hr with e | e | e
        · subst e; omega
        · have := (h.rg r hr).b1; omega
        · have := (h.rg r hr).b1; omega
def oI (o : Option Int) : Int := match o with
  | none => 0
  | some p => p
theorem rget_walk {cap most : Nat} {s : TS} (k : Int) (h : ROk cap most s) (hc : cap ≤ 512) (hm : most ≤ 512) (hk : -1000 ≤ k) (hk2 : k ≤ 1000) : FM Try.prog 17 [.p (some (3,0)), .i .i64 k] (rmR cap most s) (fun v M' => v = .tup [.i .i64 (oI (getR k (runsT s.T))), .b (getR k (runsT s.T)).isSome] ∧ M' = rmR cap most s) := by
  unfold getR
  cases hf : floorR k (runsT s.T) none with
  | none =>
    have F := floorR_walk k h.ok hm none hf
    refine FM.pbodyV (tb := tb) (fn := Try.f17) rfl rfl ?_
    simp only [argS, Nat.reduceAdd, rmR, tsR, trR, arR, List.length_cons, List.length_nil, List.cons_append, List.nil_append]
    refine WS.pseq rfl ?_
    refine WS.pregion rfl ?_
    refine WS.po (tb := tb) rfl rfl rfl rfl rfl ?_
    refine WS.po (tb := tb) rfl rfl rfl rfl rfl ?_
    refine WS.pend rfl ?_
    refine WS.pseq rfl ?_
    refine WS.pregion rfl ?_
    refine WS.po (tb := tb) rfl rfl rfl rfl rfl ?_
    refine WS.po (tb := tb) rfl rfl rfl rfl rfl ?_
    refine WS.poP (tb := tb) rfl rfl rfl rfl rfl (by simp only [nl, nz, Nat.reduceAdd, Nat.reduceMul, Int.reduceToNat]; exact rfl) ?_
    refine WS.po (tb := tb) rfl rfl rfl rfl rfl ?_
    refine WS.po (tb := tb) rfl rfl rfl rfl rfl ?_
    refine WS.pcallM (tb := tb) [0,1,2] F rfl rfl rfl rfl rfl (by (try simp only [mapL, mapV, ll]) <;> exact rfl) (by simp [okL, okV, tsR, trR, arR, rA, rB, rC]; fail_if_success exfalso) rfl (by simp [embP, okL, okV, mapL, mapV, mem_next, mem_get, mem_ro, mapL_cellsR, okL_cellsR, tsR, trR, arR, rA, rB, rC]; fail_if_success exfalso) rfl ?_; rintro _ _ ⟨rfl, rfl⟩ -; simp only [plugL, setsL, newsL, isOwn, ownB, over, mapL, mapV, ll, Nat.reduceAdd, Nat.reduceLT, Nat.zero_add, if_true, if_false, Nat.reduceSub, reduceIte, mapL_cellsR, Nat.lt_irrefl, Nat.not_lt_zero, Nat.zero_lt_succ, Nat.lt_add_one, tsR, trR, arR, rA, rB, rC]
    refine WS.po (tb := tb) rfl rfl rfl rfl rfl ?_
    refine WS.po (tb := tb) rfl rfl rfl rfl rfl ?_
    refine WS.po (tb := tb) rfl rfl rfl rfl rfl ?_
    refine WS.po (tb := tb) rfl rfl rfl rfl rfl ?_; rw [new_mem]; simp only [ll, vcells, mem_next, Nat.zero_add, Nat.zero_mul, Nat.reduceAdd, reps, setL, Nat.reduceMul]
    refine WS.po0 (tb := tb) rfl rfl rfl rfl (step_H rfl rfl (evH_store rfl rfl rfl rfl rfl (Nat.zero_le _) rfl (by simp [vcells]) (Nat.le_of_ble_eq_true rfl))) ?_; rw [upd_mem _ rfl]; simp only [vcells, setL, ll]
    refine WS.po (tb := tb) rfl rfl rfl rfl rfl ?_
    refine WS.pend rfl ?_
    refine WS.pseq rfl ?_
    refine WS.pseq rfl ?_
    refine WS.pregion rfl ?_
    refine WS.po (tb := tb) rfl rfl rfl rfl rfl ?_
    refine WS.poB (tb := tb) true rfl rfl rfl rfl rfl rfl ?_
    refine WS.po (tb := tb) rfl rfl rfl rfl rfl ?_
    refine WS.pono rfl rfl rfl rfl ?_
    refine WS.pono rfl rfl rfl rfl ?_
    refine WS.pono rfl rfl rfl rfl ?_
    refine WS.pono rfl rfl rfl rfl ?_
    refine WS.po (tb := tb) rfl rfl rfl rfl rfl ?_
    refine WS.pend rfl ?_
    refine WS.pcondT rfl rfl ?_
    refine WS.pseq rfl ?_
    refine WS.pregion rfl ?_
    refine WS.po (tb := tb) rfl rfl rfl rfl rfl ?_
    refine WS.po (tb := tb) rfl rfl rfl rfl rfl ?_
    refine WS.pend rfl ?_
    refine WS.pret rfl ⟨.inr rfl, _, rfl, ?_⟩
    exact ⟨_, rfl, [0,1,2,3], rmR cap most s, .tup [.i .i64 0, .b false], ⟨rfl, rfl, (by simp [viewP, okL, okV, mapL, mapV, mem_get, mapL_cellsR, okL_cellsR, rmR, tsR, trR, arR]), rfl⟩, rfl, by simp [okV, okL], rfl, rfl⟩
  | some r =>
    have F := floorR_walk k h.ok hm (some r) hf
    have hrm : r ∈ runsT s.T := by rcases floorR_mem hf with ⟨h1, _⟩ | h1; exact h1; cases h1
    obtain ⟨a0, a1, b0, b1, c0, c1⟩ := rg_rb (h.nf.rg r hrm) hc
    have E := rend_walk r.a r.b r.c a0 (by omega) b0 (by omega)
    by_cases hlt : k < r.a + r.b
    · simp only [if_pos hlt]
      refine FM.pbodyV (tb := tb) (fn := Try.f17) rfl rfl ?_
      simp only [argS, Nat.reduceAdd, rmR, tsR, trR, arR, List.length_cons, List.length_nil, List.cons_append, List.nil_append]
      refine WS.pseq rfl ?_
      refine WS.pregion rfl ?_
      refine WS.po (tb := tb) rfl rfl rfl rfl rfl ?_
      refine WS.po (tb := tb) rfl rfl rfl rfl rfl ?_
      refine WS.pend rfl ?_
      refine WS.pseq rfl ?_
      refine WS.pregion rfl ?_
      refine WS.po (tb := tb) rfl rfl rfl rfl rfl ?_
      refine WS.po (tb := tb) rfl rfl rfl rfl rfl ?_
      refine WS.poP (tb := tb) rfl rfl rfl rfl rfl (by simp only [nl, nz, Nat.reduceAdd, Nat.reduceMul, Int.reduceToNat]; exact rfl) ?_
      refine WS.po (tb := tb) rfl rfl rfl rfl rfl ?_
      refine WS.po (tb := tb) rfl rfl rfl rfl rfl ?_
      refine WS.pcallM (tb := tb) [0,1,2] F rfl rfl rfl rfl rfl (by (try simp only [mapL, mapV, ll]) <;> exact rfl) (by simp [okL, okV, tsR, trR, arR, rA, rB, rC]; fail_if_success exfalso) rfl (by simp [embP, okL, okV, mapL, mapV, mem_next, mem_get, mem_ro, mapL_cellsR, okL_cellsR, tsR, trR, arR, rA, rB, rC]; fail_if_success exfalso) rfl ?_; rintro _ _ ⟨rfl, rfl⟩ -; simp only [plugL, setsL, newsL, isOwn, ownB, over, mapL, mapV, ll, Nat.reduceAdd, Nat.reduceLT, Nat.zero_add, if_true, if_false, Nat.reduceSub, reduceIte, mapL_cellsR, Nat.lt_irrefl, Nat.not_lt_zero, Nat.zero_lt_succ, Nat.lt_add_one, tsR, trR, arR, rA, rB, rC]
      refine WS.po (tb := tb) rfl rfl rfl rfl rfl ?_
      refine WS.po (tb := tb) rfl rfl rfl rfl rfl ?_
      refine WS.po (tb := tb) rfl rfl rfl rfl rfl ?_
      refine WS.po (tb := tb) rfl rfl rfl rfl rfl ?_; rw [new_mem]; simp only [ll, vcells, mem_next, Nat.zero_add, Nat.zero_mul, Nat.reduceAdd, reps, setL, Nat.reduceMul]
      refine WS.po0 (tb := tb) rfl rfl rfl rfl (step_H rfl rfl (evH_store rfl rfl rfl rfl rfl (Nat.zero_le _) rfl (by simp [vcells]) (Nat.le_of_ble_eq_true rfl))) ?_; rw [upd_mem _ rfl]; simp only [vcells, setL, ll]
      refine WS.po (tb := tb) rfl rfl rfl rfl rfl ?_
      refine WS.pend rfl ?_
      refine WS.pseq rfl ?_
      refine WS.pseq rfl ?_
      refine WS.pregion rfl ?_
      refine WS.po (tb := tb) rfl rfl rfl rfl rfl ?_
      refine WS.poB (tb := tb) false rfl rfl rfl rfl rfl rfl ?_
      refine WS.po (tb := tb) rfl rfl rfl rfl rfl ?_
      refine WS.po (tb := tb) rfl rfl rfl rfl rfl ?_
      refine WS.poA (tb := tb) rfl rfl rfl rfl rfl (by simp only [List.drop_zero, List.drop_succ_cons, List.take_succ_cons, List.take_zero, rwPl, rwRn, rwVw]; exact rfl) ?_
      refine WS.pcallM (tb := tb) [] E rfl rfl rfl rfl rfl (by (try simp only [mapL, mapV, ll]) <;> exact rfl) (by simp [okL, okV, tsR, trR, arR, rA, rB, rC]; fail_if_success exfalso) rfl (by simp [embP, okL, okV, mapL, mapV, mem_next, mem_get, mem_ro, mapL_cellsR, okL_cellsR, tsR, trR, arR, rA, rB, rC]; fail_if_success exfalso) rfl ?_; rintro _ _ ⟨rfl, rfl⟩ -; simp only [plugL, setsL, newsL, isOwn, ownB, over, mapL, mapV, ll, Nat.reduceAdd, Nat.reduceLT, Nat.zero_add, if_true, if_false, Nat.reduceSub, reduceIte, mapL_cellsR, Nat.lt_irrefl, Nat.not_lt_zero, Nat.zero_lt_succ, Nat.lt_add_one, tsR, trR, arR, rA, rB, rC]
      refine WS.poDF (tb := tb) rfl rfl rfl rfl rfl (by omega) ?_
      refine WS.po (tb := tb) rfl rfl rfl rfl rfl ?_
      refine WS.pend rfl ?_
      refine WS.pcondF rfl rfl ?_
      refine WS.pskip rfl ?_
      refine WS.pseq rfl ?_
      refine WS.pregion rfl ?_
      refine WS.poP (tb := tb) rfl rfl rfl rfl rfl (by simp only [nl, nz, Nat.reduceAdd, Nat.reduceMul, Int.reduceToNat]; exact rfl) ?_
      refine WS.po (tb := tb) rfl rfl rfl rfl rfl ?_
      refine WS.po (tb := tb) rfl rfl rfl rfl rfl ?_
      refine WS.poW (tb := tb) rfl rfl rfl rfl rfl (by simp only [lo]; omega) (by simp only [Am.hi]; omega) ?_
      refine WS.poP (tb := tb) rfl rfl rfl rfl rfl (by simp only [nl, nz, Nat.reduceAdd, Nat.reduceMul, Int.reduceToNat]; exact rfl) ?_
      refine WS.po (tb := tb) rfl rfl rfl rfl rfl ?_
      refine WS.poW (tb := tb) rfl rfl rfl rfl rfl (by simp only [lo]; omega) (by simp only [Am.hi]; omega) ?_
      refine WS.po (tb := tb) rfl rfl rfl rfl rfl ?_
      refine WS.po (tb := tb) rfl rfl rfl rfl rfl ?_
      refine WS.pend rfl ?_
      refine WS.pret rfl ⟨.inr rfl, _, rfl, ?_⟩
      exact ⟨_, rfl, [0,1,2,3], rmR cap most s, .tup [.i .i64 (r.c + k - r.a), .b true], ⟨rfl, rfl, (by simp [viewP, okL, okV, mapL, mapV, mem_get, mapL_cellsR, okL_cellsR, rmR, tsR, trR, arR]), rfl⟩, rfl, by simp [okV, okL], rfl, rfl⟩
    · simp only [if_neg hlt]
      refine FM.pbodyV (tb := tb) (fn := Try.f17) rfl rfl ?_
      simp only [argS, Nat.reduceAdd, rmR, tsR, trR, arR, List.length_cons, List.length_nil, List.cons_append, List.nil_append]
      refine WS.pseq rfl ?_
      refine WS.pregion rfl ?_
      refine WS.po (tb := tb) rfl rfl rfl rfl rfl ?_
      refine WS.po (tb := tb) rfl rfl rfl rfl rfl ?_
      refine WS.pend rfl ?_
      refine WS.pseq rfl ?_
      refine WS.pregion rfl ?_
      refine WS.po (tb := tb) rfl rfl rfl rfl rfl ?_
      refine WS.po (tb := tb) rfl rfl rfl rfl rfl ?_
      refine WS.poP (tb := tb) rfl rfl rfl rfl rfl (by simp only [nl, nz, Nat.reduceAdd, Nat.reduceMul, Int.reduceToNat]; exact rfl) ?_
      refine WS.po (tb := tb) rfl rfl rfl rfl rfl ?_
      refine WS.po (tb := tb) rfl rfl rfl rfl rfl ?_
      refine WS.pcallM (tb := tb) [0,1,2] F rfl rfl rfl rfl rfl (by (try simp only [mapL, mapV, ll]) <;> exact rfl) (by simp [okL, okV, tsR, trR, arR, rA, rB, rC]; fail_if_success exfalso) rfl (by simp [embP, okL, okV, mapL, mapV, mem_next, mem_get, mem_ro, mapL_cellsR, okL_cellsR, tsR, trR, arR, rA, rB, rC]; fail_if_success exfalso) rfl ?_; rintro _ _ ⟨rfl, rfl⟩ -; simp only [plugL, setsL, newsL, isOwn, ownB, over, mapL, mapV, ll, Nat.reduceAdd, Nat.reduceLT, Nat.zero_add, if_true, if_false, Nat.reduceSub, reduceIte, mapL_cellsR, Nat.lt_irrefl, Nat.not_lt_zero, Nat.zero_lt_succ, Nat.lt_add_one, tsR, trR, arR, rA, rB, rC]
      refine WS.po (tb := tb) rfl rfl rfl rfl rfl ?_
      refine WS.po (tb := tb) rfl rfl rfl rfl rfl ?_
      refine WS.po (tb := tb) rfl rfl rfl rfl rfl ?_
      refine WS.po (tb := tb) rfl rfl rfl rfl rfl ?_; rw [new_mem]; simp only [ll, vcells, mem_next, Nat.zero_add, Nat.zero_mul, Nat.reduceAdd, reps, setL, Nat.reduceMul]
      refine WS.po0 (tb := tb) rfl rfl rfl rfl (step_H rfl rfl (evH_store rfl rfl rfl rfl rfl (Nat.zero_le _) rfl (by simp [vcells]) (Nat.le_of_ble_eq_true rfl))) ?_; rw [upd_mem _ rfl]; simp only [vcells, setL, ll]
      refine WS.po (tb := tb) rfl rfl rfl rfl rfl ?_
      refine WS.pend rfl ?_
      refine WS.pseq rfl ?_
      refine WS.pseq rfl ?_
      refine WS.pregion rfl ?_
      refine WS.po (tb := tb) rfl rfl rfl rfl rfl ?_
      refine WS.poB (tb := tb) false rfl rfl rfl rfl rfl rfl ?_
      refine WS.po (tb := tb) rfl rfl rfl rfl rfl ?_
      refine WS.po (tb := tb) rfl rfl rfl rfl rfl ?_
      refine WS.poA (tb := tb) rfl rfl rfl rfl rfl (by simp only [List.drop_zero, List.drop_succ_cons, List.take_succ_cons, List.take_zero, rwPl, rwRn, rwVw]; exact rfl) ?_
      refine WS.pcallM (tb := tb) [] E rfl rfl rfl rfl rfl (by (try simp only [mapL, mapV, ll]) <;> exact rfl) (by simp [okL, okV, tsR, trR, arR, rA, rB, rC]; fail_if_success exfalso) rfl (by simp [embP, okL, okV, mapL, mapV, mem_next, mem_get, mem_ro, mapL_cellsR, okL_cellsR, tsR, trR, arR, rA, rB, rC]; fail_if_success exfalso) rfl ?_; rintro _ _ ⟨rfl, rfl⟩ -; simp only [plugL, setsL, newsL, isOwn, ownB, over, mapL, mapV, ll, Nat.reduceAdd, Nat.reduceLT, Nat.zero_add, if_true, if_false, Nat.reduceSub, reduceIte, mapL_cellsR, Nat.lt_irrefl, Nat.not_lt_zero, Nat.zero_lt_succ, Nat.lt_add_one, tsR, trR, arR, rA, rB, rC]
      refine WS.poDT (tb := tb) rfl rfl rfl rfl rfl (by omega) ?_
      refine WS.po (tb := tb) rfl rfl rfl rfl rfl ?_
      refine WS.pend rfl ?_
      refine WS.pcondT rfl rfl ?_
      refine WS.pseq rfl ?_
      refine WS.pregion rfl ?_
      refine WS.po (tb := tb) rfl rfl rfl rfl rfl ?_
      refine WS.po (tb := tb) rfl rfl rfl rfl rfl ?_
      refine WS.pend rfl ?_
      refine WS.pret rfl ⟨.inr rfl, _, rfl, ?_⟩
      exact ⟨_, rfl, [0,1,2,3], rmR cap most s, .tup [.i .i64 0, .b false], ⟨rfl, rfl, (by simp [viewP, okL, okV, mapL, mapV, mem_get, mapL_cellsR, okL_cellsR, rmR, tsR, trR, arR]), rfl⟩, rfl, by simp [okV, okL], rfl, rfl⟩
theorem rcount_walk (cap most : Nat) (s : TS) : FM Try.prog 12 [.p (some (3,0))] (rmR cap most s) (fun v M' => v = .i .i64 s.n ∧ M' = rmR cap most s) := by
  have L := tlen_walk s.ps s.fr s.n s.T.id s.n
  refine FM.pbody (tb := tb) (fn := Try.f12) rfl rfl ?_
  simp only [argS, Nat.reduceAdd, rmR, tsR, trR, arR, List.length_cons, List.length_nil, List.cons_append, List.nil_append]
  refine WS.pseq rfl ?_
  refine WS.pregion rfl ?_
  refine WS.po (tb := tb) rfl rfl rfl rfl rfl ?_
  refine WS.pend rfl ?_
  refine WS.pseq rfl ?_
  refine WS.pregion rfl ?_
  refine WS.po (tb := tb) rfl rfl rfl rfl rfl ?_
  refine WS.po (tb := tb) rfl rfl rfl rfl rfl ?_
  refine WS.poP (tb := tb) rfl rfl rfl rfl rfl (by simp only [nl, nz, Nat.reduceAdd, Nat.reduceMul, Int.reduceToNat]; exact rfl) ?_
  refine WS.po (tb := tb) rfl rfl rfl rfl rfl ?_
  refine WS.pcallM (tb := tb) [0,1,2] L rfl rfl rfl rfl rfl (by (try simp only [mapL, mapV, ll]) <;> exact rfl) (by simp [okL, okV, trR, arR]; fail_if_success exfalso) rfl (by simp [embP, okL, okV, mapL, mapV, mem_next, mem_get, mem_ro, mapL_cellsR, okL_cellsR, trR, arR]; fail_if_success exfalso) rfl ?_; rintro _ _ ⟨rfl, rfl⟩ -; simp only [plugL, setsL, newsL, isOwn, ownB, over, mapL, mapV, ll, Nat.reduceAdd, Nat.reduceLT, Nat.zero_add, if_true, if_false, Nat.reduceSub, reduceIte, mapL_cellsR, Nat.lt_irrefl, Nat.not_lt_zero, Nat.zero_lt_succ, Nat.lt_add_one, trR, arR]
  refine WS.po (tb := tb) rfl rfl rfl rfl rfl ?_
  refine WS.pend rfl ?_
  refine WS.pret rfl ⟨.inr rfl, _, rfl, ?_⟩
  exact ⟨_, rfl, rfl, rfl⟩
end Go.Proofs.Ytdeeancepelkiaa.Am

