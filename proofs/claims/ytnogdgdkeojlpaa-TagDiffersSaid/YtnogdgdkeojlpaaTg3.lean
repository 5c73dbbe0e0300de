/- Functions of the pages, walked. Conditions: those of each theorem. -/
import Derived.Test.YtnogdgdkeojlpaaAm5
import Derived.Test.YtnogdgdkeojlpaaTg2
namespace Go.Proofs.Ytnogdgdkeojlpaa.Am
open Go.Proofs
set_option maxRecDepth 1000000
set_option maxHeartbeats 4000000
set_option linter.unusedSimpArgs false
set_option linter.unusedVariables false
/-- A number's byte at a place; the number of four bytes. -/
def leB (v : Int) (i : Nat) : Int := wr .u8 (v.fdiv (pow2 (min (8 * (i : Int)).toNat IntKind.u32.bits)))
def le4 (v : Int) : List Int := [leB v 0, leB v 1, leB v 2, leB v 3]
theorem le4_get (v : Int) (i : Nat) (h : i < 4) : (le4 v)[i]? = some (leB v i) := by
  obtain rfl | rfl | rfl | rfl : i = 0 ∨ i = 1 ∨ i = 2 ∨ i = 3 := by omega
  all_goals rfl
theorem over2_get {α : Type} {xs ys : List α} {o : Nat} (h : o + ys.length ≤ xs.length) (j : Nat) : (over2 xs o ys)[j]? = if j < o then xs[j]? else if j < o + ys.length then ys[j - o]? else xs[j]? := by
  have l1 : (xs.take o).length = o := by rw [List.length_take]; omega
  simp only [over2, List.append_assoc]
  by_cases e1 : j < o
  · rw [if_pos e1, List.getElem?_append_left (by omega), List.getElem?_take, if_pos e1]
  · rw [if_neg e1, List.getElem?_append_right (by omega), l1]
    by_cases e2 : j < o + ys.length
    · rw [if_pos e2, List.getElem?_append_left (by omega)]
    · rw [if_neg e2, List.getElem?_append_right (by omega), List.getElem?_drop]; congr 1; omega
theorem over2_length {α : Type} {xs ys : List α} {o : Nat} (h : o + ys.length ≤ xs.length) : (over2 xs o ys).length = xs.length := by
  simp only [over2, List.length_append, List.length_take, List.length_drop]; omega
theorem over2_step {α : Type} {xs ys : List α} {o i : Nat} {y : α} (hy : ys[i]? = some y) (h : o + ys.length ≤ xs.length) : (over2 xs o (ys.take i)).set (o + i) y = over2 xs o (ys.take (i + 1)) := by
  have hi : i < ys.length := (List.getElem?_eq_some_iff.1 hy).1
  have l2 : (ys.take i).length = i := by rw [List.length_take]; omega
  have l3 : (ys.take (i + 1)).length = i + 1 := by rw [List.length_take]; omega
  apply List.ext_getElem?
  intro j
  rw [List.getElem?_set, over2_length (by omega), over2_get (by omega), over2_get (by omega), l2, l3, List.getElem?_take, List.getElem?_take]
  by_cases e : o + i = j
  · subst e
    rw [if_pos rfl, if_pos (by omega), if_neg (by omega), if_pos (by omega), if_pos (by omega), show o + i - o = i by omega, hy]
  · rw [if_neg e]
    by_cases e1 : j < o
    · rw [if_pos e1, if_pos e1]
    · rw [if_neg e1, if_neg e1]
      by_cases e2 : j < o + i
      · rw [if_pos e2, if_pos (by omega), if_pos (by omega), if_pos (by omega)]
      · rw [if_neg e2, if_neg (by omega)]
theorem put_walk (v : Int) (xs : List Int) (o n c : Nat) (q : Bool) (hn : 4 ≤ n) (ho : o + 4 ≤ xs.length) (hl : xs.length ≤ 9223372036854775807) :
    FM Try.prog 19 [.sl (some (0,o)) n c q, .i .u32 v] [some ⟨cellsR (rwI .u8) xs, 5, true⟩] (fun u M' => u = .tup [] ∧ M' = [some ⟨cellsR (rwI .u8) (over2 xs o (le4 v)), 5, true⟩]) := by
  refine FM.pbody (tb := tb) (fn := Try.f19) rfl rfl ?_
  simp only [argS, Nat.reduceAdd, List.length_cons, List.length_nil]
  refine jq ?_
  refine jg ?_
  refine jo ?_
  refine je ?_
  refine WS.pblock rfl ?_
  refine WS.ploopI (σ := Nat) (τ := Unit) (fun i => [(0, .sl (some (0,o)) n c q), (1, .i .u32 v), (5, .i .i64 i)]) (fun i => [some ⟨cellsR (rwI .u8) (over2 xs o ((le4 v).take i)), 5, true⟩]) (fun i => i ≤ 4) (fun i => 4 - i) (fun _ => []) (fun _ => [some ⟨cellsR (rwI .u8) (over2 xs o (le4 v)), 5, true⟩]) (fun _ => True) 0 [0] 0 rfl (Nat.zero_le _) (jSb (by simp [jVb, jOb, jMb, mapL_cellsR, okL_cellsR, over2, List.take_zero, List.append_nil, List.length_nil, Nat.add_zero, List.take_append_drop]) (by simp only [jSl, jOb, jMb, Nat.reduceAdd, Nat.reduceLT, over2, List.take_zero, List.append_nil, List.length_nil, Nat.add_zero, List.take_append_drop] <;> exact jClo)) rfl ?_ ?_
  · intro i hi
    by_cases h : i < 4
    · have hs := over2_step (xs := xs) (o := o) (le4_get v i h) (by show o + 4 ≤ _; exact ho)
      have hlen : (over2 xs o ((le4 v).take i)).length = xs.length := by
        have : ((le4 v).take i).length = i := by rw [List.length_take]; show min i 4 = i; omega
        simp only [over2, List.length_append, List.length_take, List.length_drop, this]; omega
      have hs2 := hs.symm
      generalize over2 xs o ((le4 v).take i) = X at *
      have hst := cellsI_set (k := .u8) (xs := X) (x := leB v i) (i := o + i) (by omega)
      unfold leB at hst
      refine jq ?_
      refine jg ?_
      refine jDT ?_
      refine je ?_
      refine jq ?_
      refine WS.pcondT rfl rfl ?_
      refine WS.pskip rfl ?_
      refine jq ?_
      refine WS.pblock rfl ?_
      refine jq ?_
      refine jg ?_
      iterate 2 refine jo ?_
      refine je ?_
      refine jg ?_
      iterate 4 refine jo ?_
      refine jW ?_
      iterate 2 refine jo ?_
      refine jI ?_
      refine WS.po0 (tb := tb) rfl rfl rfl rfl (step_H rfl rfl (evH_store rfl rfl rfl rfl rfl (Nat.zero_le _) rfl (by simp [vcells]) (by simp only [vcells, List.length_cons, List.length_nil, cellsI_len, cellsB_len, List.length_set, List.length_replicate, List.length_append, List.length_map, List.length_take, List.length_drop, hlen]; omega))) ?_; rw [upd_mem _ rfl]; simp only [vcells, List.set_cons_zero, List.set_cons_succ, hst]; (try simp only [setL, List.set_cons_zero, List.set_cons_succ])
      refine je ?_
      refine jg ?_
      refine jW ?_
      refine jo ?_
      refine je ?_
      refine WS.nil ?_
      exact ⟨i + 1, by omega, by omega, (jSn [0] (by simp [jVb, jOb, jMb, mapL_cellsR, okL_cellsR, hs2, leB]) (by simp only [jSl, jOb, jMb, Nat.reduceAdd, Nat.reduceLT, hs2, leB] <;> exact jClo))⟩
    · obtain rfl : i = 4 := by omega
      have hk : (le4 v).take 4 = le4 v := rfl
      refine jq ?_
      refine jg ?_
      refine jB false ?_
      refine je ?_
      refine jq ?_
      refine WS.pcondF rfl rfl ?_
      refine WS.pout rfl rfl ?_
      exact ⟨rfl, (), trivial, (jSn [0] (by simp [jVb, jOb, jMb, mapL_cellsR, okL_cellsR, hk]) (by simp only [jSl, jOb, jMb, Nat.reduceAdd, Nat.reduceLT, hk] <;> exact jClo))⟩
  · rintro _ -
    refine WS.nil ?_
    exact ⟨.inl rfl, _, rfl, _, rfl, rfl, rfl⟩
def geN (f : Nat → Int) : Nat → Int
  | 0 => 0
  | i + 1 => Go.bits .or .u32 (geN f i) (wr .u32 (f i * pow2 (min (8 * (i : Int)).toNat IntKind.u32.bits)))
def ge4 (xs : List Int) (o : Nat) : Int := geN (fun i => xs.getD (o + i) 0) 4
theorem get_walk (xs : List Int) (o n c : Nat) (q : Bool) (hb : Byt xs) (hn : 4 ≤ n) (ho : o + 4 ≤ xs.length) (hl : xs.length ≤ 9223372036854775807) :
    FM Try.prog 21 [.sl (some (0,o)) n c q] [some ⟨cellsR (rwI .u8) xs, 5, false⟩] (fun u M' => u = .i .u32 (ge4 xs o) ∧ M' = [some ⟨cellsR (rwI .u8) xs, 5, false⟩]) := by
  refine FM.pbody (tb := tb) (fn := Try.f21) rfl rfl ?_
  simp only [argS, Nat.reduceAdd, List.length_cons, List.length_nil]
  refine jq ?_
  refine jg ?_
  refine jo ?_
  refine je ?_
  refine jq ?_
  refine jg ?_
  refine jo ?_
  refine je ?_
  iterate 2 refine jq ?_
  refine jg ?_
  refine jo ?_
  refine je ?_
  refine WS.pblock rfl ?_
  refine WS.ploopI (σ := Nat) (τ := Unit) (fun i => [(0, .sl (some (0,o)) n c q), (3, .i .u32 (geN (fun i => xs.getD (o + i) 0) i)), (5, .i .i64 i)]) (fun _ => [some ⟨cellsR (rwI .u8) xs, 5, false⟩]) (fun i => i ≤ 4) (fun i => 4 - i) (fun _ => [(3, .i .u32 (ge4 xs o))]) (fun _ => [some ⟨cellsR (rwI .u8) xs, 5, false⟩]) (fun _ => True) 0 [0] 0 rfl (Nat.zero_le _) (jSb (by simp [jVb, jOb, jMb, mapL_cellsR, okL_cellsR, geN]) (by simp only [jSl, jOb, jMb, Nat.reduceAdd, Nat.reduceLT, geN] <;> exact jClo)) rfl ?_ ?_
  · intro i hi
    by_cases h : i < 4
    · obtain ⟨x, hx⟩ : ∃ x, xs[o + i]? = some x := ⟨_, List.getElem?_eq_getElem (by omega)⟩
      have hx1 := hb x (List.mem_of_getElem? hx)
      have e1 : geN (fun i => xs.getD (o + i) 0) (i + 1) = Go.bits .or .u32 (geN (fun i => xs.getD (o + i) 0) i) (wr .u32 (x * pow2 (min (8 * (i : Int)).toNat IntKind.u32.bits))) := by
        have : xs.getD (o + i) 0 = x := by rw [List.getD_eq_getElem?_getD, hx]; rfl
        simp only [geN, this]
      generalize geN (fun i => xs.getD (o + i) 0) i = y at *
      refine jq ?_
      refine jg ?_
      refine jDT ?_
      refine je ?_
      refine jq ?_
      refine WS.pcondT rfl rfl ?_
      refine WS.pskip rfl ?_
      refine jq ?_
      refine WS.pblock rfl ?_
      refine jq ?_
      refine jg ?_
      iterate 2 refine jo ?_
      refine je ?_
      refine jg ?_
      iterate 3 refine jo ?_
      refine jI ?_
      refine WS.po (tb := tb) rfl rfl rfl rfl (step_R rfl (evR_load rfl rfl rfl rfl (cellsI_get hx))) ?_
      refine jW ?_
      refine jo ?_
      refine jW ?_
      iterate 3 refine jo ?_
      refine je ?_
      refine jg ?_
      refine jW ?_
      refine jo ?_
      refine je ?_
      refine WS.nil ?_
      exact ⟨i + 1, by omega, by omega, (jSn [0] (by simp [jVb, jOb, jMb, mapL_cellsR, okL_cellsR, e1]) (by simp only [jSl, jOb, jMb, Nat.reduceAdd, Nat.reduceLT, e1] <;> exact jClo))⟩
    · obtain rfl : i = 4 := by omega
      refine jq ?_
      refine jg ?_
      refine jB false ?_
      refine je ?_
      refine jq ?_
      refine WS.pcondF rfl rfl ?_
      refine WS.pout rfl rfl ?_
      exact ⟨rfl, (), trivial, (jSn [0] (by simp [jVb, jOb, jMb, mapL_cellsR, okL_cellsR, ge4]) (by simp only [jSl, jOb, jMb, Nat.reduceAdd, Nat.reduceLT, ge4] <;> exact jClo))⟩
  · rintro _ -
    refine jq ?_
    refine jg ?_
    iterate 2 refine jo ?_
    refine je ?_
    refine WS.pret rfl ⟨.inr rfl, _, rfl, ?_⟩
    exact ⟨_, rfl, rfl, rfl⟩
def okK (n : Int) : Prop := n = 1 ∨ n = 2 ∨ n = 3
theorem kind_yes (n : Int) (h : okK n) : FM Try.prog 18 [.i .i64 n] [] (fun u M' => u = .b true ∧ M' = []) := by
  refine FM.pbody (tb := tb) (fn := Try.f18) rfl rfl ?_
  simp only [argS, Nat.reduceAdd, List.length_cons, List.length_nil]
  rcases h with rfl | rfl | rfl
  · refine WS.pseq rfl ?_
    refine jg ?_
    refine jo ?_
    refine je ?_
    refine jq ?_
    refine jg ?_
    refine jo ?_
    refine jB true ?_
    refine jo ?_
    iterate 2 refine jN ?_
    iterate 2 refine jo ?_
    iterate 2 refine jN ?_
    iterate 2 refine jo ?_
    refine je ?_
    refine WS.pret rfl ⟨.inr rfl, _, rfl, ?_⟩
    exact ⟨_, rfl, rfl, rfl⟩
  · refine WS.pseq rfl ?_
    refine jg ?_
    refine jo ?_
    refine je ?_
    refine jq ?_
    refine jg ?_
    refine jo ?_
    refine jB false ?_
    iterate 2 refine jo ?_
    refine jB true ?_
    iterate 2 refine jo ?_
    iterate 2 refine jN ?_
    iterate 2 refine jo ?_
    refine je ?_
    refine WS.pret rfl ⟨.inr rfl, _, rfl, ?_⟩
    exact ⟨_, rfl, rfl, rfl⟩
  · refine WS.pseq rfl ?_
    refine jg ?_
    refine jo ?_
    refine je ?_
    refine jq ?_
    refine jg ?_
    refine jo ?_
    refine jB false ?_
    iterate 2 refine jo ?_
    refine jB false ?_
    iterate 3 refine jo ?_
    refine jB true ?_
    iterate 2 refine jo ?_
    refine je ?_
    refine WS.pret rfl ⟨.inr rfl, _, rfl, ?_⟩
    exact ⟨_, rfl, rfl, rfl⟩
theorem kind_no (n : Int) (h : ¬ okK n) : FM Try.prog 18 [.i .i64 n] [] (fun u M' => u = .b false ∧ M' = []) := by
  have h1 : ¬ n = 1 := fun e => h (.inl e)
  have h2 : ¬ n = 2 := fun e => h (.inr (.inl e))
  have h3 : ¬ n = 3 := fun e => h (.inr (.inr e))
  refine FM.pbody (tb := tb) (fn := Try.f18) rfl rfl ?_
  simp only [argS, Nat.reduceAdd, List.length_cons, List.length_nil]
  refine jq ?_
  refine jg ?_
  refine jo ?_
  refine je ?_
  refine jq ?_
  refine jg ?_
  refine jo ?_
  refine jDF ?_
  iterate 2 refine jo ?_
  refine jDF ?_
  iterate 3 refine jo ?_
  refine jDF ?_
  iterate 2 refine jo ?_
  refine je ?_
  refine WS.pret rfl ⟨.inr rfl, _, rfl, ?_⟩
  exact ⟨_, rfl, rfl, rfl⟩
theorem rkind_yes (n : Int) (h : okK n) : FM Try.prog 13 [.i .i64 n] [] (fun u M' => u = .b true ∧ M' = []) := by
  refine FM.pbody (tb := tb) (fn := Try.f13) rfl rfl ?_
  simp only [argS, Nat.reduceAdd, List.length_cons, List.length_nil]
  have h : 1 ≤ n ∧ n ≤ 3 := by rcases h with rfl | rfl | rfl <;> omega
  refine jq ?_
  refine jg ?_
  refine jo ?_
  refine je ?_
  refine jq ?_
  refine jg ?_
  refine jo ?_
  refine jDT ?_
  iterate 2 refine jo ?_
  refine jDT ?_
  iterate 2 refine jo ?_
  refine je ?_
  refine WS.pret rfl ⟨.inr rfl, _, rfl, ?_⟩
  exact ⟨_, rfl, rfl, rfl⟩
theorem rkind_no (n : Int) (h : ¬ okK n) : FM Try.prog 13 [.i .i64 n] [] (fun u M' => u = .b false ∧ M' = []) := by
  have h1 : ¬ n = 1 := fun e => h (.inl e)
  have h2 : ¬ n = 2 := fun e => h (.inr (.inl e))
  have h3 : ¬ n = 3 := fun e => h (.inr (.inr e))
  refine FM.pbody (tb := tb) (fn := Try.f13) rfl rfl ?_
  simp only [argS, Nat.reduceAdd, List.length_cons, List.length_nil]
  by_cases h4 : 1 ≤ n
  · have h5 : 3 < n := by omega
    refine jq ?_
    refine jg ?_
    refine jo ?_
    refine je ?_
    refine jq ?_
    refine jg ?_
    refine jo ?_
    refine jDT ?_
    iterate 2 refine jo ?_
    refine jDF ?_
    iterate 2 refine jo ?_
    refine je ?_
    refine WS.pret rfl ⟨.inr rfl, _, rfl, ?_⟩
    exact ⟨_, rfl, rfl, rfl⟩
  · refine WS.pseq rfl ?_
    refine jg ?_
    refine jo ?_
    refine je ?_
    refine jq ?_
    refine jg ?_
    refine jo ?_
    refine jDF ?_
    refine jo ?_
    iterate 2 refine jN ?_
    iterate 2 refine jo ?_
    refine je ?_
    refine WS.pret rfl ⟨.inr rfl, _, rfl, ?_⟩
    exact ⟨_, rfl, rfl, rfl⟩
theorem count_walk (I : List Int) (n c c2 : Nat) (q q2 : Bool) (hb : Byt I) (hn : n ≤ I.length) (hl : I.length ≤ 9223372036854775807) :
    FM Try.prog 22 [.sl (some (0,0)) n c q, .sl (some (1,0)) 1 c2 q2] [some ⟨cellsR (rwI .u8) I, 5, false⟩, some ⟨[.i .u8 255], 5, false⟩] (fun v M' => v = .i .i64 (countB (255 : Int).toNat.toUInt8 ((I.take n).map fun n => n.toNat.toUInt8)) ∧ M' = [some ⟨cellsR (rwI .u8) I, 5, false⟩, some ⟨[.i .u8 255], 5, false⟩]) := by
  refine FM.pbody (tb := tb) (fn := Try.f22) rfl rfl ?_
  simp only [argS, Nat.reduceAdd, List.length_cons, List.length_nil]
  refine jq ?_
  refine jg ?_
  refine jo ?_
  refine je ?_
  iterate 2 refine jq ?_
  refine jg ?_
  iterate 2 refine jo ?_
  refine jB false ?_
  refine je ?_
  refine WS.pcondF rfl rfl ?_
  refine WS.pskip rfl ?_
  iterate 2 refine jq ?_
  refine jg ?_
  iterate 2 refine jo ?_
  refine jB true ?_
  refine je ?_
  refine WS.pcondT rfl rfl ?_
  refine jq ?_
  refine jg ?_
  iterate 2 refine jo ?_
  refine WS.poP (tb := tb) rfl rfl rfl rfl (step_P (evP_index rfl rfl rfl rfl rfl rfl (by simp only [vcells, List.length_cons, List.length_nil, cellsI_len, cellsB_len, List.length_set, List.length_replicate, List.length_append, List.length_map, List.length_take, List.length_drop]; omega))) (by simp only [Nat.zero_add, Nat.add_zero, Nat.reduceAdd, Nat.reduceMul, Nat.add_assoc, Nat.mul_one]; exact rfl) ?_
  refine jo ?_
  refine WS.po (tb := tb) rfl rfl rfl rfl (step_R rfl (evR_cnt rfl rfl rfl rfl rfl (cellsAt_part (o := 0) rfl (by omega)) (by first | exact rfl | (simp only [vcells, List.length_cons, List.length_nil, cellsI_len, cellsB_len, List.length_set, List.length_replicate, List.length_append, List.length_map, List.length_take, List.length_drop] <;> omega) | omega))) ?_
  refine jo ?_
  refine je ?_
  refine WS.pret rfl ⟨.inr rfl, _, rfl, ?_⟩
  exact ⟨_, rfl, rfl, rfl⟩
end Go.Proofs.Ytnogdgdkeojlpaa.Am

