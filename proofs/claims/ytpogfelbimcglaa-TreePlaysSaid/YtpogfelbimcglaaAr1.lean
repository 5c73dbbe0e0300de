/- Functions of the tree and of the law TreePlays, walked. Conditions: those of each theorem. -/
import Derived.Test.YtpogfelbimcglaaAm5
import Derived.Test.YtpogfelbimcglaaTb
namespace Go.Proofs.Ytpogfelbimcglaa.Am
open Go.Proofs
set_option maxRecDepth 1000000
set_option maxHeartbeats 4000000
set_option linter.unusedSimpArgs false
set_option linter.unusedVariables false
structure Pl where
  live : Bool
  next : Int
  l : Int
  r : Int
  h : Int
  a : Int
  b : Int
  c : Int
def rwPl : Rw Pl := ⟨8, fun x => [.b x.live, .i .u32 x.next, .i .u32 x.l, .i .u32 x.r, .i .i64 x.h, .i .i64 x.a, .i .i64 x.b, .i .i64 x.c], fun _ => rfl, fun _ => by simp [okL, okV]⟩
theorem Pl_len (xs : List Pl) : (cellsR rwPl xs).length = xs.length * 8 := cellsR_len rwPl xs
theorem Pl_set {xs : List Pl} {x : Pl} {i : Nat} (h : xs[i]? = some x) (live_ : Bool) (next_ : Int) (l_ : Int) (r_ : Int) (h_ : Int) (a_ : Int) (b_ : Int) (c_ : Int) : setL (cellsR rwPl xs) (i * 8) [.b live_, .i .u32 next_, .i .u32 l_, .i .u32 r_, .i .i64 h_, .i .i64 a_, .i .i64 b_, .i .i64 c_] = cellsR rwPl (xs.set i ⟨live_, next_, l_, r_, h_, a_, b_, c_⟩) := cellsR_set0 (R := rwPl) h (Nat.le_refl _) rfl
theorem Pl_app1 {xs : List Pl} {live_ : Bool} {next_ : Int} {l_ : Int} {r_ : Int} {h_ : Int} {a_ : Int} {b_ : Int} {c_ : Int} : cellsR rwPl xs ++ [.b live_, .i .u32 next_, .i .u32 l_, .i .u32 r_, .i .i64 h_, .i .i64 a_, .i .i64 b_, .i .i64 c_] = cellsR rwPl (xs ++ [⟨live_, next_, l_, r_, h_, a_, b_, c_⟩]) := by rw [cellsR_app]; simp [cellsR, rwPl]
theorem Pl_reps {live_ : Bool} {next_ : Int} {l_ : Int} {r_ : Int} {h_ : Int} {a_ : Int} {b_ : Int} {c_ : Int} (n : Nat) : reps [.b live_, .i .u32 next_, .i .u32 l_, .i .u32 r_, .i .i64 h_, .i .i64 a_, .i .i64 b_, .i .i64 c_] n = cellsR rwPl (List.replicate n ⟨live_, next_, l_, r_, h_, a_, b_, c_⟩) := cellsR_reps rwPl ⟨live_, next_, l_, r_, h_, a_, b_, c_⟩ n
theorem Pl_one {live_ : Bool} {next_ : Int} {l_ : Int} {r_ : Int} {h_ : Int} {a_ : Int} {b_ : Int} {c_ : Int} : cellsR rwPl [⟨live_, next_, l_, r_, h_, a_, b_, c_⟩] = [.b live_, .i .u32 next_, .i .u32 l_, .i .u32 r_, .i .i64 h_, .i .i64 a_, .i .i64 b_, .i .i64 c_] := by simp [cellsR, rwPl]
theorem Pl_set_live {xs : List Pl} {x : Pl} {i : Nat} (h : xs[i]? = some x) (v_ : Bool) : setL (cellsR rwPl xs) (i * 8) [.b v_] = cellsR rwPl (xs.set i { x with live := v_ }) := cellsR_set0 (R := rwPl) h (Nat.le_of_ble_eq_true rfl) rfl
theorem Pl_set_next {xs : List Pl} {x : Pl} {i : Nat} (h : xs[i]? = some x) (v_ : Int) : setL (cellsR rwPl xs) (i * 8 + 1) [.i .u32 v_] = cellsR rwPl (xs.set i { x with next := v_ }) := cellsR_set (R := rwPl) h (Nat.le_of_ble_eq_true rfl) rfl
theorem Pl_set_l {xs : List Pl} {x : Pl} {i : Nat} (h : xs[i]? = some x) (v_ : Int) : setL (cellsR rwPl xs) (i * 8 + 2) [.i .u32 v_] = cellsR rwPl (xs.set i { x with l := v_ }) := cellsR_set (R := rwPl) h (Nat.le_of_ble_eq_true rfl) rfl
theorem Pl_set_r {xs : List Pl} {x : Pl} {i : Nat} (h : xs[i]? = some x) (v_ : Int) : setL (cellsR rwPl xs) (i * 8 + 3) [.i .u32 v_] = cellsR rwPl (xs.set i { x with r := v_ }) := cellsR_set (R := rwPl) h (Nat.le_of_ble_eq_true rfl) rfl
theorem Pl_set_h {xs : List Pl} {x : Pl} {i : Nat} (h : xs[i]? = some x) (v_ : Int) : setL (cellsR rwPl xs) (i * 8 + 4) [.i .i64 v_] = cellsR rwPl (xs.set i { x with h := v_ }) := cellsR_set (R := rwPl) h (Nat.le_of_ble_eq_true rfl) rfl
theorem Pl_set_a {xs : List Pl} {x : Pl} {i : Nat} (h : xs[i]? = some x) (v_ : Int) : setL (cellsR rwPl xs) (i * 8 + 5) [.i .i64 v_] = cellsR rwPl (xs.set i { x with a := v_ }) := cellsR_set (R := rwPl) h (Nat.le_of_ble_eq_true rfl) rfl
theorem Pl_set_b {xs : List Pl} {x : Pl} {i : Nat} (h : xs[i]? = some x) (v_ : Int) : setL (cellsR rwPl xs) (i * 8 + 6) [.i .i64 v_] = cellsR rwPl (xs.set i { x with b := v_ }) := cellsR_set (R := rwPl) h (Nat.le_of_ble_eq_true rfl) rfl
theorem Pl_set_c {xs : List Pl} {x : Pl} {i : Nat} (h : xs[i]? = some x) (v_ : Int) : setL (cellsR rwPl xs) (i * 8 + 7) [.i .i64 v_] = cellsR rwPl (xs.set i { x with c := v_ }) := cellsR_set (R := rwPl) h (Nat.le_of_ble_eq_true rfl) rfl
def arM (ps : List Pl) (fr lv : Int) : List (Option Blk) := [some ⟨cellsR rwPl ps, 64, true⟩, some ⟨[.sl (some (0,0)) ps.length ps.length false, .i .u32 fr, .i .i64 lv], 60, true⟩]

/-- The same, only read. -/
def arR (ps : List Pl) (fr lv : Int) : List (Option Blk) := [some ⟨cellsR rwPl ps, 64, false⟩, some ⟨[.sl (some (0,0)) ps.length ps.length false, .i .u32 fr, .i .i64 lv], 60, false⟩]
theorem ar_has_yes (ps : List Pl) (id : Nat) (fr lv : Int) (p : Pl) (hp : ps[id]? = some p) (hl : p.live = true) (hm : ps.length ≤ 600) :
  FM Try.prog 43 [.p (some (1,0)), .i .u32 id] (arR ps fr lv) (fun v M' => v = .b true ∧ M' = arR ps fr lv) := by
  have hid : id < ps.length := (List.getElem?_eq_some_iff.1 hp).1
  refine FM.pbody (tb := tb) (fn := Try.f43) rfl rfl ?_
  simp only [argS, Nat.reduceAdd, arR, List.length_cons, List.length_nil]
  refine jq ?_
  refine jg ?_
  refine jo ?_
  refine je ?_
  refine jq ?_
  refine jg ?_
  refine jo ?_
  refine jW ?_
  iterate 2 refine jo ?_
  refine jP ?_
  iterate 2 refine jo ?_
  refine jW ?_
  refine jDT ?_
  iterate 3 refine jo ?_
  refine jP ?_
  iterate 2 refine jo ?_
  refine jI ?_
  refine jP ?_
  refine WS.po (tb := tb) rfl rfl rfl rfl (step_R rfl (evR_load rfl rfl rfl rfl (cellsR_get0 hp rfl))) ?_
  iterate 2 refine jo ?_
  refine je ?_
  refine WS.pret rfl ⟨.inr rfl, _, rfl, ?_⟩
  exact ⟨_, rfl, by rw [hl], rfl⟩
theorem ar_has_no (ps : List Pl) (id : Nat) (fr lv : Int) (hl : ∀ p, ps[id]? = some p → p.live = false) (hm : ps.length ≤ 600) (hi : id ≤ 4294967295) :
  FM Try.prog 43 [.p (some (1,0)), .i .u32 id] (arR ps fr lv) (fun v M' => v = .b false ∧ M' = arR ps fr lv) := by
  refine FM.pbody (tb := tb) (fn := Try.f43) rfl rfl ?_
  simp only [argS, Nat.reduceAdd, arR, List.length_cons, List.length_nil]
  by_cases hid : id < ps.length
  · obtain ⟨p, hp⟩ : ∃ p, ps[id]? = some p := ⟨_, List.getElem?_eq_getElem hid⟩
    have hl := hl p hp
    refine jq ?_
    refine jg ?_
    refine jo ?_
    refine je ?_
    refine jq ?_
    refine jg ?_
    refine jo ?_
    refine jW ?_
    iterate 2 refine jo ?_
    refine jP ?_
    iterate 2 refine jo ?_
    refine jW ?_
    refine jDT ?_
    iterate 3 refine jo ?_
    refine jP ?_
    iterate 2 refine jo ?_
    refine jI ?_
    refine jP ?_
    refine WS.po (tb := tb) rfl rfl rfl rfl (step_R rfl (evR_load rfl rfl rfl rfl (cellsR_get0 hp rfl))) ?_
    iterate 2 refine jo ?_
    refine je ?_
    refine WS.pret rfl ⟨.inr rfl, _, rfl, ?_⟩
    exact ⟨_, rfl, by rw [hl], rfl⟩
  · refine WS.pseq rfl ?_
    refine jg ?_
    refine jo ?_
    refine je ?_
    refine jq ?_
    refine jg ?_
    refine jo ?_
    refine jW ?_
    iterate 2 refine jo ?_
    refine jP ?_
    iterate 2 refine jo ?_
    refine jW ?_
    refine jDF ?_
    refine jo ?_
    iterate 8 refine jN ?_
    iterate 2 refine jo ?_
    refine je ?_
    refine WS.pret rfl ⟨.inr rfl, _, rfl, ?_⟩
    exact ⟨_, rfl, rfl, rfl⟩

theorem ar_give_yes (ps : List Pl) (id : Nat) (fr lv : Int) (p : Pl) (hp : ps[id]? = some p) (hl : p.live = true) (hm : ps.length ≤ 600) (hlv : 0 < lv) (hlv2 : lv ≤ 600) :
  FM Try.prog 41 [.p (some (1,0)), .i .u32 id] (arM ps fr lv) (fun v M' => v = .i .i64 0 ∧ M' = arM (ps.set id ⟨false, fr, 0, 0, 0, 0, 0, 0⟩) id (lv - 1)) := by
  have hid : id < ps.length := (List.getElem?_eq_some_iff.1 hp).1
  refine FM.pbody (tb := tb) (fn := Try.f41) rfl rfl ?_
  simp only [argS, Nat.reduceAdd, arM, List.length_cons, List.length_nil]
  refine jq ?_
  refine jg ?_
  refine jo ?_
  refine je ?_
  iterate 2 refine jq ?_
  refine jg ?_
  iterate 2 refine jo ?_
  refine jc [0,1] (ar_has_yes ps id fr lv p hp hl hm) (by simp [jOb, hl, arM, arR]) (by simp [jEb, jOb, jMb, mapL_cellsR, okL_cellsR, hl, arM, arR]) ?_; rintro _ _ ⟨rfl, rfl⟩ -; simp only [jPg, jMb, ll, Nat.reduceAdd, Nat.reduceLT, Nat.zero_add, if_true, if_false, Nat.reduceSub, reduceIte, mapL_cellsR, Nat.lt_irrefl, Nat.not_lt_zero, Nat.zero_lt_succ, Nat.lt_add_one, hl, arM, arR]
  refine jB false ?_
  refine je ?_
  refine WS.pcondF rfl rfl ?_
  refine WS.pskip rfl ?_
  refine jq ?_
  refine WS.pdraw (tb := tb) (by kernel_rfl) rfl (by kernel_rfl) (by kernel_rfl) ?_
  iterate 2 refine jp ?_
  refine jd ?_
  refine jr ?_
  iterate 3 refine jp ?_
  refine jd ?_
  refine jr ?_
  refine WD.pA (tb := tb) rfl rfl rfl rfl rfl (by simp only [vcells, setL, ll, nl, nz, Nat.reduceAdd, Nat.reduceMul, Int.reduceToNat]; exact rfl) ?_
  refine WD.pP (tb := tb) rfl rfl rfl rfl (evP_index rfl rfl rfl rfl rfl rfl (by omega)) (by simp only [Nat.zero_add, Nat.add_zero, Nat.reduceAdd, Nat.reduceMul, Nat.add_assoc, Nat.mul_one]; exact rfl) ?_
  refine WD.e0 (tb := tb) rfl rfl rfl rfl rfl (evE_H (evH_store rfl rfl rfl rfl rfl (Nat.zero_le _) rfl (by simp [vcells]) (by simp only [Pl_len, vcells, List.length_cons, List.length_nil, cellsI_len, cellsB_len, List.length_set, List.length_replicate, List.length_append, List.length_map, List.length_take, List.length_drop]; omega))) ?_; rw [upd_mem _ rfl]; simp only [vcells, List.set_cons_zero, List.set_cons_succ, (Pl_set hp), hl, arM, arR]; (try simp only [setL, List.set_cons_zero, List.set_cons_succ])
  refine WD.fin rfl ?_
  refine jq ?_
  refine jg ?_
  iterate 3 refine jo ?_
  refine jP ?_
  refine js ?_
  refine je ?_
  refine jq ?_
  refine jg ?_
  iterate 2 refine jo ?_
  refine jP ?_
  refine jo ?_
  refine jW ?_
  refine jo ?_
  refine jP ?_
  refine js ?_
  refine je ?_
  refine jq ?_
  refine jg ?_
  refine jo ?_
  refine je ?_
  refine WS.pret rfl ⟨.inr rfl, _, rfl, ?_⟩
  exact ⟨_, rfl, rfl, by simp only [arM, List.length_set]⟩
theorem ar_give_no (ps : List Pl) (id : Nat) (fr lv : Int) (hl : ∀ p, ps[id]? = some p → p.live = false) (hm : ps.length ≤ 600) (hi : id ≤ 4294967295) :
  FM Try.prog 41 [.p (some (1,0)), .i .u32 id] (arM ps fr lv) (fun v M' => v = .i .i64 1 ∧ M' = arM ps fr lv) := by
  refine FM.pbody (tb := tb) (fn := Try.f41) rfl rfl ?_
  simp only [argS, Nat.reduceAdd, arM, List.length_cons, List.length_nil]
  refine jq ?_
  refine jg ?_
  refine jo ?_
  refine je ?_
  iterate 2 refine jq ?_
  refine jg ?_
  iterate 2 refine jo ?_
  refine jc [0,1] (ar_has_no ps id fr lv hl hm hi) (by simp [jOb, arM, arR]) (by simp [jEb, jOb, jMb, mapL_cellsR, okL_cellsR, arM, arR]) ?_; rintro _ _ ⟨rfl, rfl⟩ -; simp only [jPg, jMb, ll, Nat.reduceAdd, Nat.reduceLT, Nat.zero_add, if_true, if_false, Nat.reduceSub, reduceIte, mapL_cellsR, Nat.lt_irrefl, Nat.not_lt_zero, Nat.zero_lt_succ, Nat.lt_add_one, arM, arR]
  refine jB true ?_
  refine je ?_
  refine WS.pcondT rfl rfl ?_
  refine jq ?_
  refine jg ?_
  refine jo ?_
  refine je ?_
  refine WS.pret rfl ⟨.inr rfl, _, rfl, ?_⟩
  exact ⟨_, rfl, rfl, by simp only [arM]⟩
theorem ar_put_yes (ps : List Pl) (id : Nat) (fr lv : Int) (p : Pl) (l r h a b c : Int) (hp : ps[id]? = some p) (hl : p.live = true) (hm : ps.length ≤ 600) :
  FM Try.prog 32 [.p (some (1,0)), .i .u32 id, .agg [.i .u32 l, .i .u32 r, .i .i64 h, .i .i64 a, .i .i64 b, .i .i64 c]] (arM ps fr lv) (fun v M' => v = .i .i64 0 ∧ M' = arM (ps.set id ⟨true, p.next, l, r, h, a, b, c⟩) fr lv) := by
  have hid : id < ps.length := (List.getElem?_eq_some_iff.1 hp).1
  have hs : setL (cellsR rwPl ps) (id * 8 + 2) [.i .u32 l, .i .u32 r, .i .i64 h, .i .i64 a, .i .i64 b, .i .i64 c] = cellsR rwPl (ps.set id ⟨true, p.next, l, r, h, a, b, c⟩) := cellsR_set (R := rwPl) hp (Nat.le_refl _) (by simp only [rwPl, hl]; rfl)
  refine FM.pbodyV (tb := tb) (fn := Try.f32) rfl rfl ?_
  simp only [argS, Nat.reduceAdd, arM, List.length_cons, List.length_nil]
  refine jq ?_
  refine jg ?_
  refine jn ?_
  refine jo ?_
  refine je ?_
  iterate 2 refine jq ?_
  refine jg ?_
  iterate 2 refine jo ?_
  refine jc [0,1] (ar_has_yes ps id fr lv p hp hl hm) (by simp [jOb, hl, arM, arR]) (by simp [jEb, jOb, jMb, mapL_cellsR, okL_cellsR, hl, arM, arR]) ?_; rintro _ _ ⟨rfl, rfl⟩ -; simp only [jPg, jMb, ll, Nat.reduceAdd, Nat.reduceLT, Nat.zero_add, if_true, if_false, Nat.reduceSub, reduceIte, mapL_cellsR, Nat.lt_irrefl, Nat.not_lt_zero, Nat.zero_lt_succ, Nat.lt_add_one, hl, arM, arR]
  refine jB false ?_
  refine je ?_
  refine WS.pcondF rfl rfl ?_
  refine WS.pskip rfl ?_
  refine jq ?_
  refine WS.pdraw (tb := tb) (by kernel_rfl) rfl (by kernel_rfl) (by kernel_rfl) ?_
  iterate 2 refine jp ?_
  refine jd ?_
  refine jr ?_
  refine jp ?_
  refine WD.rA (tb := tb) rfl rfl rfl rfl rfl (by simp only [List.drop_zero, List.drop_succ_cons, List.take_succ_cons, List.take_zero, rwPl]; exact rfl) ?_
  refine WD.pP (tb := tb) rfl rfl rfl rfl (evP_index rfl rfl rfl rfl rfl rfl (by omega)) (by simp only [Nat.zero_add, Nat.add_zero, Nat.reduceAdd, Nat.reduceMul, Nat.add_assoc, Nat.mul_one]; exact rfl) ?_
  refine jd ?_
  refine WD.e0 (tb := tb) rfl rfl rfl rfl rfl (evE_H (evH_store rfl rfl rfl rfl rfl (Nat.zero_le _) rfl (by simp [vcells]) (by simp only [Pl_len, vcells, List.length_cons, List.length_nil, cellsI_len, cellsB_len, List.length_set, List.length_replicate, List.length_append, List.length_map, List.length_take, List.length_drop]; omega))) ?_; rw [upd_mem _ rfl]; simp only [vcells, List.set_cons_zero, List.set_cons_succ, hs, hl, arM, arR]; (try simp only [setL, List.set_cons_zero, List.set_cons_succ])
  refine WD.fin rfl ?_
  refine jq ?_
  refine jg ?_
  refine jo ?_
  refine je ?_
  refine WS.pret rfl ⟨.inr rfl, _, rfl, ?_⟩
  exact ⟨_, rfl, [0,1], arM (ps.set id ⟨true, p.next, l, r, h, a, b, c⟩) fr lv, .i .i64 0, ⟨rfl, rfl, by simp [arM, viewP, okL, okV, mapL, mapV, mem_get, mapL_cellsR, okL_cellsR], rfl⟩, rfl, trivial, rfl, rfl⟩
end Go.Proofs.Ytpogfelbimcglaa.Am

