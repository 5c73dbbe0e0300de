/- Functions of the flash, walked. Conditions: those of each theorem. -/
import Derived.Test.YtmkolibmadbenaaAm5
import Derived.Test.YtmkolibmadbenaaNr4
import Derived.Test.YtmkolibmadbenaaNd1b
import Derived.Test.YtmkolibmadbenaaNd5
namespace Go.Proofs.Ytmkolibmadbenaa.Am
open Go.Proofs
set_option maxRecDepth 1000000
set_option maxHeartbeats 4000000
set_option linter.unusedSimpArgs false
set_option linter.unusedVariables false
structure Act where
  op : Int
  a : Int
  short : Int
  fill : Int
def rwAct : Rw Act := ⟨4, fun x => [.i .i64 x.op, .i .i64 x.a, .i .i64 x.short, .i .u8 x.fill], fun _ => rfl, fun _ => by simp [okL, okV]⟩
theorem Act_len (xs : List Act) : (cellsR rwAct xs).length = xs.length * 4 := cellsR_len rwAct xs
theorem Act_set {xs : List Act} {x : Act} {i : Nat} (h : xs[i]? = some x) (op_ : Int) (a_ : Int) (short_ : Int) (fill_ : Int) : setL (cellsR rwAct xs) (i * 4) [.i .i64 op_, .i .i64 a_, .i .i64 short_, .i .u8 fill_] = cellsR rwAct (xs.set i ⟨op_, a_, short_, fill_⟩) := cellsR_set0 (R := rwAct) h (Nat.le_refl _) rfl
theorem Act_app1 {xs : List Act} {op_ : Int} {a_ : Int} {short_ : Int} {fill_ : Int} : cellsR rwAct xs ++ [.i .i64 op_, .i .i64 a_, .i .i64 short_, .i .u8 fill_] = cellsR rwAct (xs ++ [⟨op_, a_, short_, fill_⟩]) := by rw [cellsR_app]; simp [cellsR, rwAct]
theorem Act_reps {op_ : Int} {a_ : Int} {short_ : Int} {fill_ : Int} (n : Nat) : reps [.i .i64 op_, .i .i64 a_, .i .i64 short_, .i .u8 fill_] n = cellsR rwAct (List.replicate n ⟨op_, a_, short_, fill_⟩) := cellsR_reps rwAct ⟨op_, a_, short_, fill_⟩ n
theorem Act_one {op_ : Int} {a_ : Int} {short_ : Int} {fill_ : Int} : cellsR rwAct [⟨op_, a_, short_, fill_⟩] = [.i .i64 op_, .i .i64 a_, .i .i64 short_, .i .u8 fill_] := by simp [cellsR, rwAct]
theorem Act_set_op {xs : List Act} {x : Act} {i : Nat} (h : xs[i]? = some x) (v_ : Int) : setL (cellsR rwAct xs) (i * 4) [.i .i64 v_] = cellsR rwAct (xs.set i { x with op := v_ }) := cellsR_set0 (R := rwAct) h (Nat.le_of_ble_eq_true rfl) rfl
theorem Act_set_a {xs : List Act} {x : Act} {i : Nat} (h : xs[i]? = some x) (v_ : Int) : setL (cellsR rwAct xs) (i * 4 + 1) [.i .i64 v_] = cellsR rwAct (xs.set i { x with a := v_ }) := cellsR_set (R := rwAct) h (Nat.le_of_ble_eq_true rfl) rfl
theorem Act_set_short {xs : List Act} {x : Act} {i : Nat} (h : xs[i]? = some x) (v_ : Int) : setL (cellsR rwAct xs) (i * 4 + 2) [.i .i64 v_] = cellsR rwAct (xs.set i { x with short := v_ }) := cellsR_set (R := rwAct) h (Nat.le_of_ble_eq_true rfl) rfl
theorem Act_set_fill {xs : List Act} {x : Act} {i : Nat} (h : xs[i]? = some x) (v_ : Int) : setL (cellsR rwAct xs) (i * 4 + 3) [.i .u8 v_] = cellsR rwAct (xs.set i { x with fill := v_ }) := cellsR_set (R := rwAct) h (Nat.le_of_ble_eq_true rfl) rfl
/-- A row told as a string, twice. -/
theorem same_walk (xs : List Int) (n c c2 : Nat) (q q2 : Bool) (h : xs.length = n) : FM Try.prog 21 [.sl (some (0,0)) n c q, .sl (some (1,0)) n c2 q2] [some ⟨cellsR (rwI .u8) xs, 5, false⟩, some ⟨cellsR (rwI .u8) xs, 5, false⟩] (fun v M' => v = .b true ∧ M' = [some ⟨cellsR (rwI .u8) xs, 5, false⟩, some ⟨cellsR (rwI .u8) xs, 5, false⟩]) := by
  have hs : ((strOf xs).toList == (strOf xs).toList) = true := beq_self_eq_true _
  subst h
  refine FM.pbody (tb := tb) (fn := Try.f21) rfl rfl ?_
  simp only [argS, Nat.reduceAdd, List.length_cons, List.length_nil]
  refine jq ?_
  refine jg ?_
  refine jo ?_
  refine je ?_
  refine jq ?_
  refine jg ?_
  refine jo ?_
  refine WS.po (tb := tb) rfl rfl rfl rfl (step_R rfl (evR_str rfl rfl rfl rfl rfl (cellsAt_row (R := rwI .u8) rfl (by simp [rwI])) (by first | exact rfl | (simp only [Bk_len, Act_len, vcells, List.length_cons, List.length_nil, cellsI_len, cellsB_len, List.length_set, List.length_replicate, List.length_append, List.length_map, List.length_take, List.length_drop]; omega) | omega))) ?_
  refine jo ?_
  refine WS.po (tb := tb) rfl rfl rfl rfl (step_R rfl (evR_str rfl rfl rfl rfl rfl (cellsAt_row (R := rwI .u8) rfl (by simp [rwI])) (by first | exact rfl | (simp only [Bk_len, Act_len, vcells, List.length_cons, List.length_nil, cellsI_len, cellsB_len, List.length_set, List.length_replicate, List.length_append, List.length_map, List.length_take, List.length_drop]; omega) | omega))) ?_
  refine WS.poB (tb := tb) true rfl rfl rfl rfl rfl (by assumption) ?_
  refine jo ?_
  refine je ?_
  refine WS.pret rfl ⟨.inr rfl, _, rfl, ?_⟩
  exact ⟨_, rfl, rfl, rfl⟩
theorem same_nil : FM Try.prog 21 [.sl none 0 0 false, .sl none 0 0 false] [] (fun v M' => v = .b true ∧ M' = []) := by
  refine FM.pbody (tb := tb) (fn := Try.f21) rfl rfl ?_
  simp only [argS, Nat.reduceAdd, List.length_cons, List.length_nil]
  refine jq ?_
  refine jg ?_
  refine jo ?_
  refine je ?_
  refine jq ?_
  refine jg ?_
  iterate 6 refine jo ?_
  refine je ?_
  refine WS.pret rfl ⟨.inr rfl, _, rfl, ?_⟩
  exact ⟨_, rfl, by simp, rfl⟩
def dlen (s : Int) : Nat := if 0 < s ∧ s < 200 then s.toNat else 68
/-- Bytes that rise. -/
def dtL (f : Int) (n : Nat) : List Int := (List.range n).map fun (i : Nat) => wr .u8 (f + (i : Int))
theorem dtL_len (f : Int) (n : Nat) : (dtL f n).length = n := by simp [dtL]
theorem wr8 (z : Int) : 0 ≤ wr .u8 z ∧ wr .u8 z ≤ 255 := by
  rw [wr_eq]; simp [IntKind.wrap, IntKind.bits, IntKind.signed]; omega
theorem dtL_byt (f : Int) (n : Nat) : Byt (dtL f n) := fun x hx => by
  simp only [dtL, List.mem_map] at hx
  obtain ⟨i, _, rfl⟩ := hx
  exact wr8 _
theorem data_walk (op a s f : Int) : FM Try.prog 17 [.agg [.i .i64 op, .i .i64 a, .i .i64 s, .i .u8 f]] [] (fun v M' => v = .sl (some (0,0)) (dlen s) (dlen s) false ∧ M' = [some ⟨cellsR (rwI .u8) (dtL f (dlen s)), 5, true⟩]) := by
  obtain ⟨n, hn⟩ : ∃ n, n = dlen s := ⟨_, rfl⟩
  rw [← hn]
  have hb : n ≤ 200 := by rw [hn]; unfold dlen; split <;> omega
  refine FM.pbodyV (tb := tb) (fn := Try.f17) rfl rfl ?_
  simp only [argS, Nat.reduceAdd, List.length_cons, List.length_nil]
  have key : ∀ Q : Ex → T V → LH → Prop, ∀ k : List Fm, WS Try.prog (frameN Try.f17 1) 0 k (slt [(4, .sl (some (1,0)) n n false)]) (mem 0 [some ⟨[.i .i64 op, .i .i64 a, .i .i64 s, .i .u8 f], 38, true⟩, some ⟨cellsR (rwI .u8) (dtL f n), 5, true⟩]) Q →
      WS Try.prog (frameN Try.f17 1) 0 (.c (k1 (k2 (k1 (k2 (k2 (k2 (k2 (kb Try.f17)))))))) :: .b (kid (k2 (k1 (k2 (k2 (k2 (k2 (kb Try.f17)))))))) :: k) (slt [(3, .i .i64 n), (1, .p (some (0,0))), (4, .sl (some (1,0)) n n false), (5, .i .i64 0)]) (mem 0 [some ⟨[.i .i64 op, .i .i64 a, .i .i64 s, .i .u8 f], 38, true⟩, some ⟨cellsR (rwI .u8) (List.replicate n 0), 5, true⟩]) Q := by
    intro Q k hQ
    refine WS.ploopI (σ := Nat) (τ := Unit) (fun i => [(3, .i .i64 n), (1, .p (some (0,0))), (4, .sl (some (1,0)) n n false), (5, .i .i64 i)]) (fun i => [some ⟨[.i .i64 op, .i .i64 a, .i .i64 s, .i .u8 f], 38, true⟩, some ⟨cellsR (rwI .u8) (over2 (List.replicate n 0) 0 ((dtL f n).take i)), 5, true⟩]) (fun i => i ≤ n) (fun i => n - i)
      (fun _ => [(4, .sl (some (1,0)) n n false)]) (fun _ => [some ⟨[.i .i64 op, .i .i64 a, .i .i64 s, .i .u8 f], 38, true⟩, some ⟨cellsR (rwI .u8) (dtL f n), 5, true⟩]) (fun _ => True) 0 [0,1] 0 rfl (Nat.zero_le _) (jSb (by simp [jVb, jOb, jMb, mapL_cellsR, okL_cellsR, List.take_zero, over2_nil]) (by simp only [jSl, jOb, jMb, Nat.reduceAdd, Nat.reduceLT, List.take_zero, over2_nil] <;> exact jClo)) rfl ?_ ?_
    · intro i hi
      have hl : (over2 (List.replicate n (0 : Int)) 0 ((dtL f n).take i)).length = n := (over2_len (by rw [List.length_take, dtL_len, List.length_replicate]; omega)).trans List.length_replicate
      by_cases hlt : i < n
      · have hd : (dtL f n)[i]? = some (wr .u8 (f + (i : Int))) := by simp [dtL, hlt]
        have hs := over2_set (xs := List.replicate n (0 : Int)) (o := 0) hd (by rw [dtL_len, List.length_replicate]; omega)
        rw [Nat.zero_add] at hs
        have hst := (cellsI_set (k := .u8) (xs := over2 (List.replicate n (0 : Int)) 0 ((dtL f n).take i)) (x := wr .u8 (f + (i : Int))) (i := i) (by omega)).trans (congrArg _ hs)
        iterate 2 refine jq ?_
        refine jg ?_
        iterate 2 refine jo ?_
        refine jDT ?_
        refine je ?_
        refine WS.pcondT rfl rfl ?_
        refine WS.pskip rfl ?_
        refine jq ?_
        refine WS.pblock rfl ?_
        refine jg ?_
        iterate 2 refine jo ?_
        refine jP ?_
        iterate 2 refine jo ?_
        refine jW ?_
        refine jo ?_
        refine jI ?_
        refine WS.po0 (tb := tb) rfl rfl rfl rfl (step_H rfl rfl (evH_store rfl rfl rfl rfl rfl (Nat.zero_le _) rfl (by simp [vcells]) (by simp only [Bk_len, Act_len, vcells, List.length_cons, List.length_nil, cellsI_len, cellsB_len, List.length_set, List.length_replicate, List.length_append, List.length_map, List.length_take, List.length_drop, hl]; omega))) ?_; rw [upd_mem _ rfl]; simp only [vcells, List.set_cons_zero, List.set_cons_succ, hst]; (try simp only [setL, List.set_cons_zero, List.set_cons_succ])
        refine je ?_
        refine jg ?_
        refine jo ?_
        refine jW ?_
        refine jo ?_
        refine je ?_
        refine WS.nil ?_
        exact ⟨i + 1, by omega, by omega, (jSn [0,1] (by simp [jVb, jOb, jMb, mapL_cellsR, okL_cellsR]) (by simp only [jSl, jOb, jMb, Nat.reduceAdd, Nat.reduceLT] <;> exact jClo))⟩
      · obtain rfl : i = n := by omega
        have e := over2_all (xs := List.replicate i (0 : Int)) (ys := (dtL f i).take i) (by rw [List.length_replicate, List.length_take, dtL_len]; omega)
        have e2 : (dtL f i).take i = dtL f i := List.take_of_length_le (by rw [dtL_len]; omega)
        rw [e2] at e
        iterate 2 refine jq ?_
        refine jg ?_
        iterate 2 refine jo ?_
        refine jDF ?_
        refine je ?_
        refine WS.pcondF rfl rfl ?_
        refine WS.pout rfl rfl ?_
        exact ⟨rfl, (), trivial, (jSn [0,1] (by simp [jVb, jOb, jMb, mapL_cellsR, okL_cellsR, e, e2]) (by simp only [jSl, jOb, jMb, Nat.reduceAdd, Nat.reduceLT, e, e2] <;> exact jClo))⟩
    · rintro _ -
      exact hQ
  have fin : ∀ (S : List (Nat × V)) (MM : List (Option Blk)), SeenBy [0,1] 0 S MM [(3, .i .i64 n), (1, .p (some (0,0))), (4, .sl (some (1,0)) n n false), (5, .i .i64 0)] [some ⟨[.i .i64 op, .i .i64 a, .i .i64 s, .i .u8 f], 38, true⟩, some ⟨cellsR (rwI .u8) (List.replicate n 0), 5, true⟩] → WS Try.prog (frameN Try.f17 1) 0 [.c (k1 (k2 (k1 (k2 (k2 (k2 (k2 (kb Try.f17)))))))), .b (kid (k2 (k1 (k2 (k2 (k2 (k2 (kb Try.f17)))))))), .c (k2 (k2 (k2 (k2 (k2 (kb Try.f17))))))] (slt S) (mem 0 MM) (fun x t' h' => (x = .n ∨ x = .r) ∧ ∃ v, resV tb t' h' (Try.f17).results.toList = some v ∧ ∃ M1, h' = mem 0 M1 ∧ ∃ (w : List Nat) (M2 : List (Option Blk)) (v' : V), SeenM w ([] : List (Option Blk)).length M1 M2 ∧ v = mapV (fun i => w.getD i 0) v' ∧ okV M2.length v' ∧ v' = .sl (some (0,0)) n n false ∧ M2 = [some ⟨cellsR (rwI .u8) (dtL f n), 5, true⟩]) := by
    intro S MM V
    refine WS.seen [0,1] V (key _ _ ?_)
    refine jq ?_
    refine jg ?_
    iterate 2 refine jo ?_
    refine je ?_
    refine WS.pret rfl ⟨.inr rfl, _, rfl, ?_⟩
    exact ⟨_, rfl, [1], [some ⟨cellsR (rwI .u8) (dtL f n), 5, true⟩], .sl (some (0,0)) n n false, ⟨rfl, rfl, (by simp [jVb, jOb, jMb, mapL_cellsR, okL_cellsR]), rfl⟩, rfl, by simp [okV], rfl, rfl⟩
  by_cases h : 0 < s ∧ s < 200
  · have hns : s = (n : Int) := by rw [hn]; unfold dlen; rw [if_pos h]; omega
    refine jq ?_
    refine jg ?_
    refine jn ?_
    refine jo ?_
    refine je ?_
    refine jq ?_
    refine jg ?_
    refine jo ?_
    refine je ?_
    iterate 2 refine jq ?_
    refine jg ?_
    refine jP ?_
    refine jo ?_
    refine jDT ?_
    refine jo ?_
    refine jP ?_
    refine jo ?_
    refine jDT ?_
    refine jo ?_
    refine je ?_
    refine WS.pcondT rfl rfl ?_
    refine jg ?_
    refine jP ?_
    iterate 2 refine jo ?_
    refine je ?_
    refine jq ?_
    refine jg ?_
    refine jo ?_
    refine WS.po (tb := tb) rfl rfl rfl rfl (step_H rfl rfl (evH_make (m := n) (n := n) rfl rfl rfl rfl rfl rfl rfl rfl (by omega) (by omega) (by omega) (Nat.le_refl _) (by omega) (by omega))) ?_; (try rw [upd_mem _ rfl]); (try rw [new_mem]); (try simp only [List.set_cons_zero, List.set_cons_succ, List.cons_append, List.nil_append, mem_next, List.length_cons, List.length_nil, Nat.zero_add, Nat.reduceAdd, List.drop_zero, vcells, cellsI_app1, cellsB_app1, cellsI_cons, repsI, repsB, Bk_app1, Bk_reps, Act_app1, Act_reps])
    refine jo ?_
    refine je ?_
    iterate 2 refine jq ?_
    refine jg ?_
    refine jo ?_
    refine je ?_
    refine WS.pblock rfl ?_
    exact fin _ _ (jSb (by simp [jVb, jOb, jMb, mapL_cellsR, okL_cellsR]) (by simp only [jSl, jOb, jMb, Nat.reduceAdd, Nat.reduceLT] <;> exact jClo))
  · have hn68 : n = 68 := by rw [hn]; unfold dlen; rw [if_neg h]
    have e68 : reps [V.i .u8 0] 68 = cellsR (rwI .u8) (List.replicate n 0) := by rw [hn68]; exact repsI 68
    by_cases h1 : 0 < s
    · refine WS.pseq rfl ?_
      refine jg ?_
      refine jn ?_
      refine jo ?_
      refine je ?_
      refine jq ?_
      refine jg ?_
      refine jo ?_
      refine je ?_
      iterate 2 refine jq ?_
      refine jg ?_
      refine jP ?_
      refine jo ?_
      refine jDT ?_
      refine jo ?_
      refine jP ?_
      refine jo ?_
      refine jDF ?_
      refine jo ?_
      refine je ?_
      refine WS.pcondF rfl rfl ?_
      refine WS.pskip rfl ?_
      refine jq ?_
      refine jg ?_
      refine jo ?_
      refine jn ?_
      refine jo ?_
      refine je ?_
      iterate 2 refine jq ?_
      refine jg ?_
      refine jo ?_
      refine je ?_
      refine WS.pblock rfl ?_
      exact fin _ _ (jSb (by simp [jVb, jOb, jMb, mapL_cellsR, okL_cellsR, e68]) (by simp only [jSl, jOb, jMb, Nat.reduceAdd, Nat.reduceLT, e68] <;> exact jClo))
    · refine WS.pseq rfl ?_
      refine jg ?_
      refine jn ?_
      refine jo ?_
      refine je ?_
      refine jq ?_
      refine jg ?_
      refine jo ?_
      refine je ?_
      iterate 2 refine jq ?_
      refine jg ?_
      refine jP ?_
      refine jo ?_
      refine jDF ?_
      refine jo ?_
      iterate 3 refine jN ?_
      refine jo ?_
      refine je ?_
      refine WS.pcondF rfl rfl ?_
      refine WS.pskip rfl ?_
      refine jq ?_
      refine jg ?_
      refine jo ?_
      refine jn ?_
      refine jo ?_
      refine je ?_
      iterate 2 refine jq ?_
      refine jg ?_
      refine jo ?_
      refine je ?_
      refine WS.pblock rfl ?_
      exact fin _ _ (jSb (by simp [jVb, jOb, jMb, mapL_cellsR, okL_cellsR, e68]) (by simp only [jSl, jOb, jMb, Nat.reduceAdd, Nat.reduceLT, e68] <;> exact jClo))
end Go.Proofs.Ytmkolibmadbenaa.Am

