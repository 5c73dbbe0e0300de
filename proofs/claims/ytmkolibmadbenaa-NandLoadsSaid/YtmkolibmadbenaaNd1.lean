/- Functions of the flash, walked. Conditions: those of each theorem. -/
import Derived.Test.YtmkolibmadbenaaAm5
import Derived.Test.YtmkolibmadbenaaTb
namespace Go.Proofs.Ytmkolibmadbenaa.Am
open Go.Proofs
set_option maxRecDepth 1000000
set_option maxHeartbeats 4000000
set_option linter.unusedSimpArgs false
set_option linter.unusedVariables false
structure Bk where
  next : Int
  bad : Bool
  torn : Bool
  wear : Int
def rwBk : Rw Bk := ⟨4, fun x => [.i .i64 x.next, .b x.bad, .b x.torn, .i .i64 x.wear], fun _ => rfl, fun _ => by simp [okL, okV]⟩
theorem Bk_len (xs : List Bk) : (cellsR rwBk xs).length = xs.length * 4 := cellsR_len rwBk xs
theorem Bk_set {xs : List Bk} {x : Bk} {i : Nat} (h : xs[i]? = some x) (next_ : Int) (bad_ : Bool) (torn_ : Bool) (wear_ : Int) : setL (cellsR rwBk xs) (i * 4) [.i .i64 next_, .b bad_, .b torn_, .i .i64 wear_] = cellsR rwBk (xs.set i ⟨next_, bad_, torn_, wear_⟩) := cellsR_set0 (R := rwBk) h (Nat.le_refl _) rfl
theorem Bk_app1 {xs : List Bk} {next_ : Int} {bad_ : Bool} {torn_ : Bool} {wear_ : Int} : cellsR rwBk xs ++ [.i .i64 next_, .b bad_, .b torn_, .i .i64 wear_] = cellsR rwBk (xs ++ [⟨next_, bad_, torn_, wear_⟩]) := by rw [cellsR_app]; simp [cellsR, rwBk]
theorem Bk_reps {next_ : Int} {bad_ : Bool} {torn_ : Bool} {wear_ : Int} (n : Nat) : reps [.i .i64 next_, .b bad_, .b torn_, .i .i64 wear_] n = cellsR rwBk (List.replicate n ⟨next_, bad_, torn_, wear_⟩) := cellsR_reps rwBk ⟨next_, bad_, torn_, wear_⟩ n
theorem Bk_one {next_ : Int} {bad_ : Bool} {torn_ : Bool} {wear_ : Int} : cellsR rwBk [⟨next_, bad_, torn_, wear_⟩] = [.i .i64 next_, .b bad_, .b torn_, .i .i64 wear_] := by simp [cellsR, rwBk]
theorem Bk_set_next {xs : List Bk} {x : Bk} {i : Nat} (h : xs[i]? = some x) (v_ : Int) : setL (cellsR rwBk xs) (i * 4) [.i .i64 v_] = cellsR rwBk (xs.set i { x with next := v_ }) := cellsR_set0 (R := rwBk) h (Nat.le_of_ble_eq_true rfl) rfl
theorem Bk_set_bad {xs : List Bk} {x : Bk} {i : Nat} (h : xs[i]? = some x) (v_ : Bool) : setL (cellsR rwBk xs) (i * 4 + 1) [.b v_] = cellsR rwBk (xs.set i { x with bad := v_ }) := cellsR_set (R := rwBk) h (Nat.le_of_ble_eq_true rfl) rfl
theorem Bk_set_torn {xs : List Bk} {x : Bk} {i : Nat} (h : xs[i]? = some x) (v_ : Bool) : setL (cellsR rwBk xs) (i * 4 + 2) [.b v_] = cellsR rwBk (xs.set i { x with torn := v_ }) := cellsR_set (R := rwBk) h (Nat.le_of_ble_eq_true rfl) rfl
theorem Bk_set_wear {xs : List Bk} {x : Bk} {i : Nat} (h : xs[i]? = some x) (v_ : Int) : setL (cellsR rwBk xs) (i * 4 + 3) [.i .i64 v_] = cellsR rwBk (xs.set i { x with wear := v_ }) := cellsR_set (R := rwBk) h (Nat.le_of_ble_eq_true rfl) rfl
/-- A flash: pages of a block, bytes, blocks, power, cut, failure, what was done. -/
structure NS where
  p : Nat
  bs : List Int
  bk : List Bk
  off : Bool
  cut : Int
  fail : Int
  rd : Int
  pr : Int
  er : Int
def ndM (x : NS) : List (Option Blk) := [some ⟨cellsR (rwI .u8) x.bs, 5, true⟩, some ⟨cellsR rwBk x.bk, 70, true⟩,
  some ⟨[.i .i64 x.p, .sl (some (0,0)) x.bs.length x.bs.length false, .sl (some (1,0)) x.bk.length x.bk.length false, .b x.off, .i .i64 x.cut, .i .i64 x.fail, .i .i64 x.rd, .i .i64 x.pr, .i .i64 x.er], 66, true⟩]
/-- The same, only read. -/
def ndR (x : NS) : List (Option Blk) := [some ⟨cellsR (rwI .u8) x.bs, 5, false⟩, some ⟨cellsR rwBk x.bk, 70, false⟩,
  some ⟨[.i .i64 x.p, .sl (some (0,0)) x.bs.length x.bs.length false, .sl (some (1,0)) x.bk.length x.bk.length false, .b x.off, .i .i64 x.cut, .i .i64 x.fail, .i .i64 x.rd, .i .i64 x.pr, .i .i64 x.er], 66, false⟩]
/-- A row with other things from a place on. -/
theorem over2_len {α : Type} {xs ys : List α} {o : Nat} (h : o + ys.length ≤ xs.length) : (over2 xs o ys).length = xs.length := by
  simp only [over2, List.length_append, List.length_take, List.length_drop]; omega
theorem over2_nil {α : Type} (xs : List α) (o : Nat) : over2 xs o [] = xs := by simp [over2]
theorem over2_app {α : Type} {xs a b : List α} {o : Nat} (h : o + a.length + b.length ≤ xs.length) : over2 (over2 xs o a) (o + a.length) b = over2 xs o (a ++ b) := by
  have h1 : (xs.take o).length = o := by rw [List.length_take]; omega
  have h2 : (xs.take o ++ a).length = o + a.length := by rw [List.length_append, h1]
  simp only [over2]
  rw [← h2, List.take_left', List.append_assoc (xs.take o ++ a), ← List.append_assoc _ a b, List.append_assoc (xs.take o ++ a) b]
  · congr 1
    congr 1
    rw [h2, List.drop_append, h2, List.drop_eq_nil_of_le (by rw [h2]; omega), List.nil_append, List.drop_drop, List.length_append]
    congr 1; omega
  · rfl
theorem over2_set {α : Type} {xs ys : List α} {o i : Nat} {y : α} (hy : ys[i]? = some y) (h : o + ys.length ≤ xs.length) : (over2 xs o (ys.take i)).set (o + i) y = over2 xs o (ys.take (i + 1)) := by
  have hi := (List.getElem?_eq_some_iff.1 hy).1
  have h1 : (xs.take o ++ ys.take i).length = o + i := by rw [List.length_append, List.length_take, List.length_take]; omega
  have h3 : xs.drop (o + i) = xs[o + i]'(by omega) :: xs.drop (o + i + 1) := List.drop_eq_getElem_cons (by omega)
  simp only [over2]
  have h4 : (ys.take i).length = i := by rw [List.length_take]; omega
  have h5 : (ys.take (i + 1)).length = i + 1 := by rw [List.length_take]; omega
  rw [h4, h5, List.set_append_right _ _ (by omega), h1, Nat.sub_self, h3, List.set_cons_zero, List.take_add_one, hy]
  simp [Nat.add_assoc]
theorem fill_walk (xs : List Int) (o n c : Nat) (v : Int) (q : Bool) (h : o + n ≤ xs.length) (hm : xs.length ≤ 1000000) : FM Try.prog 33 [.sl (some (0, o)) n c q, .i .u8 v] [some ⟨cellsR (rwI .u8) xs, 5, true⟩] (fun u M' => u = .tup [] ∧ M' = [some ⟨cellsR (rwI .u8) (over2 xs o (List.replicate n v)), 5, true⟩]) := by
  refine FM.pbody (tb := tb) (fn := Try.f33) rfl rfl ?_
  simp only [argS, Nat.reduceAdd, List.length_cons, List.length_nil]
  refine jq ?_
  refine jg ?_
  iterate 3 refine jo ?_
  refine je ?_
  refine WS.pblock rfl ?_
  refine WS.ploopI (σ := Nat) (τ := Unit) (fun i => [(0, .sl (some (0, o)) n c q), (1, .i .u8 v), (6, .i .i64 n), (7, .i .i64 i)]) (fun i => [some ⟨cellsR (rwI .u8) (over2 xs o (List.replicate i v)), 5, true⟩]) (fun i => i ≤ n) (fun i => n - i)
    (fun _ => []) (fun _ => [some ⟨cellsR (rwI .u8) (over2 xs o (List.replicate n v)), 5, true⟩]) (fun _ => True) 0 [0] 0 rfl (Nat.zero_le _) (jSb (by simp [jVb, jOb, jMb, mapL_cellsR, okL_cellsR, List.replicate_zero, over2_nil]) (by simp only [jSl, jOb, jMb, Nat.reduceAdd, Nat.reduceLT, List.replicate_zero, over2_nil] <;> exact jClo)) rfl ?_ ?_
  · intro i hi
    by_cases hlt : i < n
    · have hl : (over2 xs o (List.replicate i v)).length = xs.length := over2_len (by rw [List.length_replicate]; omega)
      have hs : (over2 xs o (List.replicate i v)).set (o + i) v = over2 xs o (List.replicate (i + 1) v) := by
        have := over2_set (xs := xs) (ys := List.replicate n v) (o := o) (i := i) (y := v) (by rw [List.getElem?_replicate, if_pos hlt]) (by rw [List.length_replicate]; exact h)
        rw [List.take_replicate, List.take_replicate, Nat.min_eq_left (by omega), Nat.min_eq_left (by omega)] at this
        exact this
      have hst := (cellsI_set (k := .u8) (xs := over2 xs o (List.replicate i v)) (x := v) (i := o + i) (by omega)).trans (congrArg _ hs)
      refine jq ?_
      refine jg ?_
      refine jDT ?_
      refine je ?_
      refine jq ?_
      refine WS.pcondT rfl rfl ?_
      refine WS.pskip rfl ?_
      refine jq ?_
      refine WS.pblock rfl ?_
      refine jq ?_
      refine jg ?_
      iterate 2 refine jo ?_
      refine je ?_
      refine jg ?_
      iterate 3 refine jo ?_
      refine jI ?_
      refine WS.po0 (tb := tb) rfl rfl rfl rfl (step_H rfl rfl (evH_store rfl rfl rfl rfl rfl (Nat.zero_le _) rfl (by simp [vcells]) (by simp only [Bk_len, vcells, List.length_cons, List.length_nil, cellsI_len, cellsB_len, List.length_set, List.length_replicate, List.length_append, List.length_map, List.length_take, List.length_drop, hl]; omega))) ?_; rw [upd_mem _ rfl]; simp only [vcells, List.set_cons_zero, List.set_cons_succ, hst]; (try simp only [setL, List.set_cons_zero, List.set_cons_succ])
      refine je ?_
      refine jg ?_
      refine jW ?_
      refine jo ?_
      refine je ?_
      refine WS.nil ?_
      exact ⟨i + 1, by omega, by omega, (jSn [0] (by simp [jVb, jOb, jMb, mapL_cellsR, okL_cellsR]) (by simp only [jSl, jOb, jMb, Nat.reduceAdd, Nat.reduceLT] <;> exact jClo))⟩
    · obtain rfl : i = n := by omega
      refine jq ?_
      refine jg ?_
      refine jDF ?_
      refine je ?_
      refine jq ?_
      refine WS.pcondF rfl rfl ?_
      refine WS.pout rfl rfl ?_
      exact ⟨rfl, (), trivial, (jSn [0] (by simp [jVb, jOb, jMb, mapL_cellsR, okL_cellsR]) (by simp only [jSl, jOb, jMb, Nat.reduceAdd, Nat.reduceLT] <;> exact jClo))⟩
  · rintro _ -
    refine WS.nil ?_
    exact ⟨.inl rfl, _, rfl, _, rfl, rfl, rfl⟩
def stB (x : NS) : Bool := !x.off && !(x.cut == 0)
def stS (x : NS) : NS := if x.off = true then x else if x.cut = 0 then { x with off := true } else if 0 < x.cut then { x with cut := x.cut - 1 } else x
theorem step_walk (x : NS) (hc : x.cut ≤ 9223372036854775807) : FM Try.prog 36 [.p (some (2,0))] (ndM x) (fun v M' => v = .b (stB x) ∧ M' = ndM (stS x)) := by
  obtain ⟨p, bs, bk, off, cut, fail, rd, pr, er⟩ := x
  simp only at hc
  refine FM.pbody (tb := tb) (fn := Try.f36) rfl rfl ?_
  simp only [argS, Nat.reduceAdd, ndM, List.length_cons, List.length_nil]
  cases off with
  | true =>
    refine jq ?_
    refine jg ?_
    refine jo ?_
    refine je ?_
    refine jq ?_
    refine WS.pblock rfl ?_
    refine jq ?_
    refine jg ?_
    iterate 2 refine jo ?_
    refine jP ?_
    iterate 2 refine jo ?_
    refine je ?_
    refine WS.pcondT rfl rfl ?_
    refine jq ?_
    refine jg ?_
    refine jo ?_
    refine je ?_
    refine WS.pret rfl ⟨.inr rfl, _, rfl, ?_⟩
    exact ⟨_, rfl, rfl, rfl⟩
  | false =>
    by_cases h0 : cut = 0
    · refine WS.pseq rfl ?_
      refine jg ?_
      refine jo ?_
      refine je ?_
      refine jq ?_
      refine WS.pblock rfl ?_
      refine jq ?_
      refine jg ?_
      iterate 2 refine jo ?_
      refine jP ?_
      iterate 2 refine jo ?_
      refine je ?_
      refine WS.pcondF rfl rfl ?_
      refine jq ?_
      refine jg ?_
      iterate 2 refine jo ?_
      refine jP ?_
      refine jo ?_
      refine jDT ?_
      refine jo ?_
      refine je ?_
      refine WS.pcondT rfl rfl ?_
      refine jq ?_
      refine jg ?_
      iterate 2 refine jo ?_
      refine jP ?_
      refine js ?_
      refine je ?_
      refine jq ?_
      refine jg ?_
      refine jo ?_
      refine je ?_
      refine WS.pret rfl ⟨.inr rfl, _, rfl, ?_⟩
      exact ⟨_, rfl, by simp [stB, h0], by simp [stS, h0]⟩
    · by_cases h1 : 0 < cut
      · refine WS.pseq rfl ?_
        refine jg ?_
        refine jo ?_
        refine je ?_
        refine jq ?_
        refine WS.pblock rfl ?_
        refine jq ?_
        refine jg ?_
        iterate 2 refine jo ?_
        refine jP ?_
        iterate 2 refine jo ?_
        refine je ?_
        refine WS.pcondF rfl rfl ?_
        refine jq ?_
        refine jg ?_
        iterate 2 refine jo ?_
        refine jP ?_
        refine jo ?_
        refine jDF ?_
        refine jo ?_
        refine je ?_
        refine WS.pcondF rfl rfl ?_
        refine jq ?_
        refine jg ?_
        iterate 2 refine jo ?_
        refine jP ?_
        refine jo ?_
        refine jDT ?_
        refine jo ?_
        refine je ?_
        refine WS.pcondT rfl rfl ?_
        refine jg ?_
        iterate 2 refine jo ?_
        refine jP ?_
        refine jo ?_
        refine jW ?_
        refine jo ?_
        refine jP ?_
        refine js ?_
        refine je ?_
        refine jq ?_
        refine jg ?_
        refine jo ?_
        refine je ?_
        refine WS.pret rfl ⟨.inr rfl, _, rfl, ?_⟩
        exact ⟨_, rfl, by simp [stB, h0], by simp [stS, h0, h1]⟩
      · refine WS.pseq rfl ?_
        refine jg ?_
        refine jo ?_
        refine je ?_
        refine jq ?_
        refine WS.pblock rfl ?_
        refine jq ?_
        refine jg ?_
        iterate 2 refine jo ?_
        refine jP ?_
        iterate 2 refine jo ?_
        refine je ?_
        refine WS.pcondF rfl rfl ?_
        refine jq ?_
        refine jg ?_
        iterate 2 refine jo ?_
        refine jP ?_
        refine jo ?_
        refine jDF ?_
        refine jo ?_
        refine je ?_
        refine WS.pcondF rfl rfl ?_
        refine jq ?_
        refine jg ?_
        iterate 2 refine jo ?_
        refine jP ?_
        refine jo ?_
        refine jDF ?_
        refine jo ?_
        refine je ?_
        refine WS.pcondF rfl rfl ?_
        refine WS.pskip rfl ?_
        refine jq ?_
        refine jg ?_
        refine jo ?_
        refine je ?_
        refine WS.pret rfl ⟨.inr rfl, _, rfl, ?_⟩
        exact ⟨_, rfl, by simp [stB, h0], by simp [stS, h0, h1]⟩
def bgS (x : NS) : NS := if 0 ≤ x.fail then { x with fail := x.fail - 1 } else x
theorem begin_walk (x : NS) (hc : x.fail ≤ 9223372036854775807) : FM Try.prog 34 [.p (some (2,0))] (ndM x) (fun v M' => v = .b (x.fail == 0) ∧ M' = ndM (bgS x)) := by
  obtain ⟨p, bs, bk, off, cut, fail, rd, pr, er⟩ := x
  simp only at hc
  refine FM.pbody (tb := tb) (fn := Try.f34) rfl rfl ?_
  simp only [argS, Nat.reduceAdd, ndM, List.length_cons, List.length_nil]
  by_cases h1 : 0 ≤ fail
  · refine WS.pseq rfl ?_
    refine jg ?_
    refine jo ?_
    refine je ?_
    refine jq ?_
    refine jg ?_
    iterate 2 refine jo ?_
    refine jP ?_
    iterate 3 refine jo ?_
    refine je ?_
    iterate 2 refine jq ?_
    refine jg ?_
    iterate 2 refine jo ?_
    refine jP ?_
    refine jo ?_
    refine jDT ?_
    refine je ?_
    refine WS.pcondT rfl rfl ?_
    refine jg ?_
    iterate 2 refine jo ?_
    refine jP ?_
    refine jo ?_
    refine jW ?_
    refine jo ?_
    refine jP ?_
    refine js ?_
    refine je ?_
    refine jq ?_
    refine jg ?_
    iterate 2 refine jo ?_
    refine je ?_
    refine WS.pret rfl ⟨.inr rfl, _, rfl, ?_⟩
    exact ⟨_, rfl, by first | rfl | (congr 1; symm; simp; omega), by simp [bgS, h1]⟩
  · refine WS.pseq rfl ?_
    refine jg ?_
    refine jo ?_
    refine je ?_
    refine jq ?_
    refine jg ?_
    iterate 2 refine jo ?_
    refine jP ?_
    refine jo ?_
    refine jDF ?_
    refine jo ?_
    refine je ?_
    iterate 2 refine jq ?_
    refine jg ?_
    iterate 2 refine jo ?_
    refine jP ?_
    refine jo ?_
    refine jDF ?_
    refine je ?_
    refine WS.pcondF rfl rfl ?_
    refine WS.pskip rfl ?_
    refine jq ?_
    refine jg ?_
    iterate 2 refine jo ?_
    refine je ?_
    refine WS.pret rfl ⟨.inr rfl, _, rfl, ?_⟩
    exact ⟨_, rfl, by first | rfl | (congr 1; symm; simp; omega), by simp [bgS, h1]⟩
theorem at_walk (x : NS) (page : Nat) (h : (page + 1) * 68 ≤ x.bs.length) (hm : x.bs.length ≤ 1000000) : FM Try.prog 35 [.p (some (2,0)), .i .i64 page] (ndR x) (fun v M' => v = .sl (some (0, page * 68)) 68 (x.bs.length - page * 68) false ∧ M' = ndR x) := by
  refine FM.pbody (tb := tb) (fn := Try.f35) rfl rfl ?_
  simp only [argS, Nat.reduceAdd, ndR, List.length_cons, List.length_nil]
  refine jq ?_
  refine jg ?_
  refine jo ?_
  refine je ?_
  refine jq ?_
  refine jg ?_
  iterate 2 refine jo ?_
  refine jP ?_
  iterate 2 refine jo ?_
  refine jW ?_
  refine jo ?_
  iterate 2 refine jW ?_
  refine WS.poV (tb := tb) rfl rfl rfl rfl (step_P (evP_sliceC (a := (page*68)) (b := ((page+1)*68)) rfl rfl rfl rfl rfl rfl (by first | exact .inl ⟨rfl, rfl⟩ | exact .inr ⟨_, _, rfl, rfl⟩ | exact .inr ⟨_, _, rfl, by first | assumption | omega⟩ | exact .inr ⟨_, _, rfl, (Int.toNat_of_nonneg (by omega)).symm⟩) (by first | exact .inl ⟨rfl, rfl⟩ | exact .inr ⟨_, _, rfl, rfl⟩ | exact .inr ⟨_, _, rfl, by first | assumption | omega⟩ | exact .inr ⟨_, _, rfl, (Int.toNat_of_nonneg (by omega)).symm⟩) (by omega) (by omega) (by omega))) (by simp only [Int.toNat_natCast, Int.toNat_one, Int.toNat_zero, Int.reduceToNat, Nat.zero_mul, Nat.one_mul, Nat.sub_zero, Nat.add_sub_cancel, nl, nz, Nat.reduceAdd, Nat.reduceMul, Int.reduceToNat]; exact rfl) ?_
  refine jo ?_
  refine je ?_
  refine WS.pret rfl ⟨.inr rfl, _, rfl, ?_⟩
  exact ⟨_, rfl, by congr 1; omega, rfl⟩
theorem cut_walk (x : NS) (z : Int) : FM Try.prog 12 [.p (some (2,0)), .i .i64 z] (ndM x) (fun v M' => v = .tup [] ∧ M' = ndM { x with cut := max z (-1) }) := by
  refine FM.pbody (tb := tb) (fn := Try.f12) rfl rfl ?_
  simp only [argS, Nat.reduceAdd, ndM, List.length_cons, List.length_nil]
  have hm : (if (-1 : Int) > z then (-1 : Int) else z) = max z (-1) := by split <;> omega
  refine jg ?_
  iterate 2 refine jo ?_
  refine WS.poV (tb := tb) rfl rfl rfl rfl (step_P rfl) (show V.i .i64 (if (-1 : Int) > z then (-1 : Int) else z) = V.i .i64 (max z (-1)) by rw [hm]) ?_
  refine jo ?_
  refine jP ?_
  refine js ?_
  refine je ?_
  refine WS.nil ?_
  exact ⟨.inl rfl, _, rfl, _, rfl, rfl, rfl⟩
theorem failc_walk (x : NS) (z : Int) : FM Try.prog 22 [.p (some (2,0)), .i .i64 z] (ndM x) (fun v M' => v = .tup [] ∧ M' = ndM { x with fail := max z (-1) }) := by
  refine FM.pbody (tb := tb) (fn := Try.f22) rfl rfl ?_
  simp only [argS, Nat.reduceAdd, ndM, List.length_cons, List.length_nil]
  have hm : (if (-1 : Int) > z then (-1 : Int) else z) = max z (-1) := by split <;> omega
  refine jg ?_
  iterate 2 refine jo ?_
  refine WS.poV (tb := tb) rfl rfl rfl rfl (step_P rfl) (show V.i .i64 (if (-1 : Int) > z then (-1 : Int) else z) = V.i .i64 (max z (-1)) by rw [hm]) ?_
  refine jo ?_
  refine jP ?_
  refine js ?_
  refine je ?_
  refine WS.nil ?_
  exact ⟨.inl rfl, _, rfl, _, rfl, rfl, rfl⟩
theorem on_walk (x : NS) : FM Try.prog 14 [.p (some (2,0))] (ndM x) (fun v M' => v = .tup [] ∧ M' = ndM { x with off := false, cut := -1 }) := by
  refine FM.pbody (tb := tb) (fn := Try.f14) rfl rfl ?_
  simp only [argS, Nat.reduceAdd, ndM, List.length_cons, List.length_nil]
  refine jg ?_
  iterate 3 refine jo ?_
  refine jP ?_
  refine js ?_
  refine jo ?_
  refine jP ?_
  refine js ?_
  refine je ?_
  refine WS.nil ?_
  exact ⟨.inl rfl, _, rfl, _, rfl, rfl, rfl⟩
theorem power_walk (x : NS) : FM Try.prog 29 [.p (some (2,0))] (ndR x) (fun v M' => v = .b (!x.off) ∧ M' = ndR x) := by
  refine FM.pbody (tb := tb) (fn := Try.f29) rfl rfl ?_
  simp only [argS, Nat.reduceAdd, ndR, List.length_cons, List.length_nil]
  refine jq ?_
  refine jg ?_
  refine jo ?_
  refine je ?_
  refine jq ?_
  refine jg ?_
  iterate 2 refine jo ?_
  refine jP ?_
  iterate 3 refine jo ?_
  refine je ?_
  refine WS.pret rfl ⟨.inr rfl, _, rfl, ?_⟩
  exact ⟨_, rfl, rfl, rfl⟩
theorem stat_walk (x : NS) : FM Try.prog 26 [.p (some (2,0))] (ndR x) (fun v M' => v = .agg [.i .i64 x.rd, .i .i64 x.pr, .i .i64 x.er] ∧ M' = ndR x) := by
  refine FM.pbodyV (tb := tb) (fn := Try.f26) rfl rfl ?_
  simp only [argS, Nat.reduceAdd, ndR, List.length_cons, List.length_nil]
  refine jq ?_
  refine jg ?_
  refine jn ?_
  refine je ?_
  refine jq ?_
  refine jg ?_
  iterate 2 refine jo ?_
  refine jP ?_
  refine WS.poA (tb := tb) rfl rfl rfl rfl rfl (by simp only [List.drop_zero, List.drop_succ_cons, List.take_succ_cons, List.take_zero, rwBk]; exact rfl) ?_
  refine js ?_
  refine je ?_
  refine WS.pret rfl ⟨.inr rfl, _, rfl, ?_⟩
  exact ⟨_, rfl, [0,1,2], ndR x, .agg [.i .i64 x.rd, .i .i64 x.pr, .i .i64 x.er], ⟨rfl, rfl, (by simp [jVb, jOb, jMb, mapL_cellsR, okL_cellsR, ndR]), rfl⟩, rfl, by simp [okV, okL], rfl, rfl⟩
end Go.Proofs.Ytmkolibmadbenaa.Am

