/- One change, the reference's Right, walked. Conditions: those of each theorem. -/
import Derived.Test.YtdeeancepelkiaaRu13
namespace Go.Proofs.Ytdeeancepelkiaa.Am
open Go.Proofs
set_option maxRecDepth 1000000
set_option maxHeartbeats 4000000
set_option linter.unusedSimpArgs false
set_option linter.unusedVariables false
structure Act where
  op : Int
  lba : Int
  n : Int
  phys : Int
def rwAct : Rw Act := ⟨4, fun x => [.i .i64 x.op, .i .i64 x.lba, .i .i64 x.n, .i .i64 x.phys], fun _ => rfl, fun _ => by simp [okL, okV]⟩
theorem Act_len (xs : List Act) : (cellsR rwAct xs).length = xs.length * 4 := cellsR_len rwAct xs
theorem Act_set {xs : List Act} {x : Act} {i : Nat} (h : xs[i]? = some x) (op_ : Int) (lba_ : Int) (n_ : Int) (phys_ : Int) : setL (cellsR rwAct xs) (i * 4) [.i .i64 op_, .i .i64 lba_, .i .i64 n_, .i .i64 phys_] = cellsR rwAct (xs.set i ⟨op_, lba_, n_, phys_⟩) := cellsR_set0 (R := rwAct) h (Nat.le_refl _) rfl
theorem Act_app1 {xs : List Act} {op_ : Int} {lba_ : Int} {n_ : Int} {phys_ : Int} : cellsR rwAct xs ++ [.i .i64 op_, .i .i64 lba_, .i .i64 n_, .i .i64 phys_] = cellsR rwAct (xs ++ [⟨op_, lba_, n_, phys_⟩]) := by rw [cellsR_app]; simp [cellsR, rwAct]
theorem Act_reps {op_ : Int} {lba_ : Int} {n_ : Int} {phys_ : Int} (n : Nat) : reps [.i .i64 op_, .i .i64 lba_, .i .i64 n_, .i .i64 phys_] n = cellsR rwAct (List.replicate n ⟨op_, lba_, n_, phys_⟩) := cellsR_reps rwAct ⟨op_, lba_, n_, phys_⟩ n
theorem Act_one {op_ : Int} {lba_ : Int} {n_ : Int} {phys_ : Int} : cellsR rwAct [⟨op_, lba_, n_, phys_⟩] = [.i .i64 op_, .i .i64 lba_, .i .i64 n_, .i .i64 phys_] := by simp [cellsR, rwAct]
theorem Act_set_op {xs : List Act} {x : Act} {i : Nat} (h : xs[i]? = some x) (v_ : Int) : setL (cellsR rwAct xs) (i * 4) [.i .i64 v_] = cellsR rwAct (xs.set i { x with op := v_ }) := cellsR_set0 (R := rwAct) h (Nat.le_of_ble_eq_true rfl) rfl
theorem Act_set_lba {xs : List Act} {x : Act} {i : Nat} (h : xs[i]? = some x) (v_ : Int) : setL (cellsR rwAct xs) (i * 4 + 1) [.i .i64 v_] = cellsR rwAct (xs.set i { x with lba := v_ }) := cellsR_set (R := rwAct) h (Nat.le_of_ble_eq_true rfl) rfl
theorem Act_set_n {xs : List Act} {x : Act} {i : Nat} (h : xs[i]? = some x) (v_ : Int) : setL (cellsR rwAct xs) (i * 4 + 2) [.i .i64 v_] = cellsR rwAct (xs.set i { x with n := v_ }) := cellsR_set (R := rwAct) h (Nat.le_of_ble_eq_true rfl) rfl
theorem Act_set_phys {xs : List Act} {x : Act} {i : Nat} (h : xs[i]? = some x) (v_ : Int) : setL (cellsR rwAct xs) (i * 4 + 3) [.i .i64 v_] = cellsR rwAct (xs.set i { x with phys := v_ }) := cellsR_set (R := rwAct) h (Nat.le_of_ble_eq_true rfl) rfl
theorem awake_fm : FM Try.prog 8 [] [] (fun v M' => v = .b true ∧ M' = []) := FM.run (tb := tb) (by kernel_rfl) 200000 (by kernel_rfl)
theorem refRight_walk (c lba n : Int) (hc : 0 ≤ c) (hc2 : c ≤ 1000) : FM Try.prog 13 [.i .i64 c, .i .i64 lba, .i .i64 n] [] (fun v M' => v = .b (rgt c lba n) ∧ M' = []) := by
  refine FM.pbody (tb := tb) (fn := Try.f13) rfl rfl ?_
  simp only [argS, Nat.reduceAdd, List.length_cons, List.length_nil]
  focus
    refine WS.pseq rfl ?_
    refine WS.pregion rfl ?_
    refine WS.po (tb := tb) rfl rfl rfl rfl rfl ?_
    refine WS.pend rfl ?_
    refine WS.pseq rfl ?_
    refine WS.pregion rfl ?_
    refine WS.po (tb := tb) rfl rfl rfl rfl rfl ?_
    refine WS.poDS (tb := tb) rfl rfl rfl rfl rfl (fun hb__ => ?_) (fun hb__ => ?_)
    refine WS.po (tb := tb) rfl rfl rfl rfl rfl ?_
    refine WS.po (tb := tb) rfl rfl rfl rfl rfl ?_
    refine WS.po (tb := tb) rfl rfl rfl rfl rfl ?_
    refine WS.poDS (tb := tb) rfl rfl rfl rfl rfl (fun hb__ => ?_) (fun hb__ => ?_)
    refine WS.po (tb := tb) rfl rfl rfl rfl rfl ?_
    refine WS.po (tb := tb) rfl rfl rfl rfl rfl ?_
    refine WS.po (tb := tb) rfl rfl rfl rfl rfl ?_
    refine WS.poDS (tb := tb) rfl rfl rfl rfl rfl (fun hb__ => ?_) (fun hb__ => ?_)
    refine WS.po (tb := tb) rfl rfl rfl rfl rfl ?_
    refine WS.po (tb := tb) rfl rfl rfl rfl rfl ?_
    refine WS.po (tb := tb) rfl rfl rfl rfl rfl ?_
    refine WS.po (tb := tb) rfl rfl rfl rfl rfl ?_
    refine WS.po (tb := tb) rfl rfl rfl rfl rfl ?_
    refine WS.poW (tb := tb) rfl rfl rfl rfl rfl (by simp only [lo]; omega) (by simp only [Am.hi]; omega) ?_
    refine WS.poDS (tb := tb) rfl rfl rfl rfl rfl (fun hb__ => ?_) (fun hb__ => ?_)
    refine WS.po (tb := tb) rfl rfl rfl rfl rfl ?_
    refine WS.po (tb := tb) rfl rfl rfl rfl rfl ?_
    refine WS.pend rfl ?_
    refine WS.pret rfl ⟨.inr rfl, _, rfl, ?_⟩
    rotate_left
    refine WS.po (tb := tb) rfl rfl rfl rfl rfl ?_
    refine WS.po (tb := tb) rfl rfl rfl rfl rfl ?_
    refine WS.pend rfl ?_
    refine WS.pret rfl ⟨.inr rfl, _, rfl, ?_⟩
    rotate_left
    refine WS.po (tb := tb) rfl rfl rfl rfl rfl ?_
    refine WS.po (tb := tb) rfl rfl rfl rfl rfl ?_
    refine WS.pono rfl rfl rfl rfl ?_
    refine WS.pono rfl rfl rfl rfl ?_
    refine WS.pono rfl rfl rfl rfl ?_
    refine WS.pono rfl rfl rfl rfl ?_
    refine WS.pono rfl rfl rfl rfl ?_
    refine WS.po (tb := tb) rfl rfl rfl rfl rfl ?_
    refine WS.po (tb := tb) rfl rfl rfl rfl rfl ?_
    refine WS.pend rfl ?_
    refine WS.pret rfl ⟨.inr rfl, _, rfl, ?_⟩
    rotate_left
    refine WS.po (tb := tb) rfl rfl rfl rfl rfl ?_
    refine WS.po (tb := tb) rfl rfl rfl rfl rfl ?_
    refine WS.pono rfl rfl rfl rfl ?_
    refine WS.pono rfl rfl rfl rfl ?_
    refine WS.po (tb := tb) rfl rfl rfl rfl rfl ?_
    refine WS.po (tb := tb) rfl rfl rfl rfl rfl ?_
    refine WS.pono rfl rfl rfl rfl ?_
    refine WS.pono rfl rfl rfl rfl ?_
    refine WS.pono rfl rfl rfl rfl ?_
    refine WS.pono rfl rfl rfl rfl ?_
    refine WS.pono rfl rfl rfl rfl ?_
    refine WS.po (tb := tb) rfl rfl rfl rfl rfl ?_
    refine WS.po (tb := tb) rfl rfl rfl rfl rfl ?_
    refine WS.pend rfl ?_
    refine WS.pret rfl ⟨.inr rfl, _, rfl, ?_⟩
    rotate_left
    refine WS.po (tb := tb) rfl rfl rfl rfl rfl ?_
    refine WS.pono rfl rfl rfl rfl ?_
    refine WS.pono rfl rfl rfl rfl ?_
    refine WS.pono rfl rfl rfl rfl ?_
    refine WS.po (tb := tb) rfl rfl rfl rfl rfl ?_
    refine WS.po (tb := tb) rfl rfl rfl rfl rfl ?_
    refine WS.pono rfl rfl rfl rfl ?_
    refine WS.pono rfl rfl rfl rfl ?_
    refine WS.po (tb := tb) rfl rfl rfl rfl rfl ?_
    refine WS.po (tb := tb) rfl rfl rfl rfl rfl ?_
    refine WS.pono rfl rfl rfl rfl ?_
    refine WS.pono rfl rfl rfl rfl ?_
    refine WS.pono rfl rfl rfl rfl ?_
    refine WS.pono rfl rfl rfl rfl ?_
    refine WS.pono rfl rfl rfl rfl ?_
    refine WS.po (tb := tb) rfl rfl rfl rfl rfl ?_
    refine WS.po (tb := tb) rfl rfl rfl rfl rfl ?_
    refine WS.pend rfl ?_
    refine WS.pret rfl ⟨.inr rfl, _, rfl, ?_⟩
    rotate_left
  all_goals exact ⟨_, rfl, by rw [rgt]; first | rw [decide_eq_true (by omega)] | rw [decide_eq_false (by omega)], rfl⟩
/-- One change. -/
def oneT (cap : Nat) (s : TS) (x : Act) : TS := if x.op = 0 then setT cap s x.lba x.n x.phys else clrT cap s x.lba x.n
theorem one_walk {cap : Nat} {s : TS} (x : Act) (h : ROk cap 512 s) (hc : cap ≤ 512) : FM Try.prog 14 [.p (some (3,0)), .agg [.i .i64 x.op, .i .i64 x.lba, .i .i64 x.n, .i .i64 x.phys]] (rmM cap 512 s) (fun v M' => v = .tup [] ∧ M' = rmM cap 512 (oneT cap s x)) := by
  unfold oneT
  by_cases h0 : x.op = 0
  · have S := set_all x.lba x.n x.phys h hc
    rw [if_pos h0]
    generalize setT cap s x.lba x.n x.phys = q at *
    refine FM.pbodyV (tb := tb) (fn := Try.f14) rfl rfl ?_
    simp only [argS, Nat.reduceAdd, rmM, tsM, trM, arM, List.length_cons, List.length_nil, List.cons_append, List.nil_append]
    refine WS.pseq rfl ?_
    refine WS.pregion rfl ?_
    refine WS.po (tb := tb) rfl rfl rfl rfl rfl ?_; rw [new_mem]; simp only [ll, vcells, mem_next, Nat.zero_add, Nat.zero_mul, Nat.reduceAdd, reps, setL, Nat.reduceMul]
    refine WS.pend rfl ?_
    refine WS.pseq rfl ?_
    refine WS.pregion rfl ?_
    refine WS.poP (tb := tb) rfl rfl rfl rfl rfl (by simp only [nl, nz, Nat.reduceAdd, Nat.reduceMul, Int.reduceToNat]; exact rfl) ?_
    refine WS.po (tb := tb) rfl rfl rfl rfl rfl ?_
    refine WS.poDT (tb := tb) rfl rfl rfl rfl rfl (by omega) ?_
    refine WS.pend rfl ?_
    refine WS.pcondT rfl rfl ?_
    refine WS.pregion rfl ?_
    refine WS.po (tb := tb) rfl rfl rfl rfl rfl ?_
    refine WS.poP (tb := tb) rfl rfl rfl rfl rfl (by simp only [nl, nz, Nat.reduceAdd, Nat.reduceMul, Int.reduceToNat]; exact rfl) ?_
    refine WS.po (tb := tb) rfl rfl rfl rfl rfl ?_
    refine WS.poP (tb := tb) rfl rfl rfl rfl rfl (by simp only [nl, nz, Nat.reduceAdd, Nat.reduceMul, Int.reduceToNat]; exact rfl) ?_
    refine WS.po (tb := tb) rfl rfl rfl rfl rfl ?_
    refine WS.poP (tb := tb) rfl rfl rfl rfl rfl (by simp only [nl, nz, Nat.reduceAdd, Nat.reduceMul, Int.reduceToNat]; exact rfl) ?_
    refine WS.po (tb := tb) rfl rfl rfl rfl rfl ?_
    refine WS.pcallM (tb := tb) [0,1,2,3] S rfl rfl rfl rfl rfl (by (try simp only [mapL, mapV, ll]) <;> exact rfl) (by simp [okL, okV, rmM, tsM, trM, arM]; fail_if_success exfalso) rfl (by simp [embP, okL, okV, mapL, mapV, mem_next, mem_get, mem_ro, mapL_cellsR, okL_cellsR, rmM, tsM, trM, arM]; fail_if_success exfalso) rfl ?_; rintro _ _ ⟨rfl, rfl⟩ -; simp only [plugL, setsL, newsL, isOwn, ownB, over, mapL, mapV, ll, Nat.reduceAdd, Nat.reduceLT, Nat.zero_add, if_true, if_false, Nat.reduceSub, reduceIte, mapL_cellsR, Nat.lt_irrefl, Nat.not_lt_zero, Nat.zero_lt_succ, Nat.lt_add_one, rmM, tsM, trM, arM]
    refine WS.pend rfl ?_
    refine WS.nil ?_
    exact ⟨.inl rfl, _, rfl, _, rfl, [0,1,2,3], rmM cap 512 q, .tup [], ⟨rfl, rfl, (by simp [viewP, okL, okV, mapL, mapV, mem_get, mapL_cellsR, okL_cellsR, rmM, tsM, trM, arM]), rfl⟩, rfl, trivial, rfl, rfl⟩
  · have S := clr_all x.lba x.n h hc
    rw [if_neg h0]
    generalize clrT cap s x.lba x.n = q at *
    refine FM.pbodyV (tb := tb) (fn := Try.f14) rfl rfl ?_
    simp only [argS, Nat.reduceAdd, rmM, tsM, trM, arM, List.length_cons, List.length_nil, List.cons_append, List.nil_append]
    refine WS.pseq rfl ?_
    refine WS.pregion rfl ?_
    refine WS.po (tb := tb) rfl rfl rfl rfl rfl ?_; rw [new_mem]; simp only [ll, vcells, mem_next, Nat.zero_add, Nat.zero_mul, Nat.reduceAdd, reps, setL, Nat.reduceMul]
    refine WS.pend rfl ?_
    refine WS.pseq rfl ?_
    refine WS.pregion rfl ?_
    refine WS.poP (tb := tb) rfl rfl rfl rfl rfl (by simp only [nl, nz, Nat.reduceAdd, Nat.reduceMul, Int.reduceToNat]; exact rfl) ?_
    refine WS.po (tb := tb) rfl rfl rfl rfl rfl ?_
    refine WS.poDF (tb := tb) rfl rfl rfl rfl rfl (by omega) ?_
    refine WS.pend rfl ?_
    refine WS.pcondF rfl rfl ?_
    refine WS.pregion rfl ?_
    refine WS.po (tb := tb) rfl rfl rfl rfl rfl ?_
    refine WS.poP (tb := tb) rfl rfl rfl rfl rfl (by simp only [nl, nz, Nat.reduceAdd, Nat.reduceMul, Int.reduceToNat]; exact rfl) ?_
    refine WS.po (tb := tb) rfl rfl rfl rfl rfl ?_
    refine WS.poP (tb := tb) rfl rfl rfl rfl rfl (by simp only [nl, nz, Nat.reduceAdd, Nat.reduceMul, Int.reduceToNat]; exact rfl) ?_
    refine WS.po (tb := tb) rfl rfl rfl rfl rfl ?_
    refine WS.pcallM (tb := tb) [0,1,2,3] S rfl rfl rfl rfl rfl (by (try simp only [mapL, mapV, ll]) <;> exact rfl) (by simp [okL, okV, rmM, tsM, trM, arM]; fail_if_success exfalso) rfl (by simp [embP, okL, okV, mapL, mapV, mem_next, mem_get, mem_ro, mapL_cellsR, okL_cellsR, rmM, tsM, trM, arM]; fail_if_success exfalso) rfl ?_; rintro _ _ ⟨rfl, rfl⟩ -; simp only [plugL, setsL, newsL, isOwn, ownB, over, mapL, mapV, ll, Nat.reduceAdd, Nat.reduceLT, Nat.zero_add, if_true, if_false, Nat.reduceSub, reduceIte, mapL_cellsR, Nat.lt_irrefl, Nat.not_lt_zero, Nat.zero_lt_succ, Nat.lt_add_one, rmM, tsM, trM, arM]
    refine WS.pend rfl ?_
    refine WS.nil ?_
    exact ⟨.inl rfl, _, rfl, _, rfl, [0,1,2,3], rmM cap 512 q, .tup [], ⟨rfl, rfl, (by simp [viewP, okL, okV, mapL, mapV, mem_get, mapL_cellsR, okL_cellsR, rmM, tsM, trM, arM]), rfl⟩, rfl, trivial, rfl, rfl⟩
/-- Is a sector in a change's range, and the change to be made? -/
def hitT (cap : Int) (x : Act) (k : Int) : Prop := (if x.op = 0 then okS cap x.lba x.n x.phys else rgt cap x.lba x.n = true) ∧ x.lba ≤ k ∧ k < x.lba + x.n
theorem oneT_ok {cap : Nat} {s : TS} (x : Act) (h : ROk cap 512 s) (hc : cap ≤ 512) : ROk cap 512 (oneT cap s x) ∧ ∀ k p, PG (runsT (oneT cap s x).T) k p ↔ (hitT cap x k ∧ x.op = 0 ∧ p = x.phys + (k - x.lba)) ∨ (¬ hitT cap x k ∧ PG (runsT s.T) k p) := by
  unfold oneT hitT
  by_cases h0 : x.op = 0
  · simp only [if_pos h0]
    obtain ⟨h1, h2⟩ := setT_ok x.lba x.n x.phys h hc
    refine ⟨h1, fun k p => ?_⟩
    rw [h2]
    split
    · next h3 => simp [h3, h0]
    · next h3 => simp [h3]
  · simp only [if_neg h0]
    obtain ⟨h1, h2⟩ := clrT_ok x.lba x.n h hc
    refine ⟨h1, fun k p => ?_⟩
    rw [h2]
    split
    · next h3 => simp [h3, h0]
    · next h3 => simp [h3]
theorem rarena_walk (cap most : Nat) (s : TS) : FM Try.prog 18 [.p (some (3,0))] (rmR cap most s) (fun v M' => v = .p (some (1,0)) ∧ M' = rmR cap most s) := by
  refine FM.pbody (tb := tb) (fn := Try.f18) rfl rfl ?_
  simp only [argS, Nat.reduceAdd, rmR, tsR, trR, arR, List.length_cons, List.length_nil, List.cons_append, List.nil_append]
  refine WS.pseq rfl ?_
  refine WS.pregion rfl ?_
  refine WS.po (tb := tb) rfl rfl rfl rfl rfl ?_
  refine WS.pend rfl ?_
  refine WS.pseq rfl ?_
  refine WS.pregion rfl ?_
  refine WS.po (tb := tb) rfl rfl rfl rfl rfl ?_
  refine WS.po (tb := tb) rfl rfl rfl rfl rfl ?_
  refine WS.poP (tb := tb) rfl rfl rfl rfl rfl (by simp only [nl, nz, Nat.reduceAdd, Nat.reduceMul, Int.reduceToNat]; exact rfl) ?_
  refine WS.po (tb := tb) rfl rfl rfl rfl rfl ?_
  refine WS.po (tb := tb) rfl rfl rfl rfl rfl ?_
  refine WS.pend rfl ?_
  refine WS.pret rfl ⟨.inr rfl, _, rfl, ?_⟩
  exact ⟨_, rfl, rfl, rfl⟩
theorem nf_nil {cap : Int} {L : List Rn} (h : NF cap L) (hp : ∀ x p, ¬ PG L x p) : L = [] := by
  cases L with
  | nil => rfl
  | cons r l =>
    have := h.rg r (by simp)
    exact absurd ⟨r, by simp, Int.le_refl _, by have := this.b1; omega, rfl⟩ (hp r.a (r.c + (r.a - r.a)))
end Go.Proofs.Ytdeeancepelkiaa.Am

