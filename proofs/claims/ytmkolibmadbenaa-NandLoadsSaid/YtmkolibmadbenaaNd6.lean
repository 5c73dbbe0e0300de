/- Functions of the flash, walked. Conditions: those of each theorem. -/
import Derived.Test.YtmkolibmadbenaaNd1
namespace Go.Proofs.Ytmkolibmadbenaa.Am
open Go.Proofs
set_option maxRecDepth 1000000
set_option maxHeartbeats 4000000
set_option linter.unusedSimpArgs false
set_option linter.unusedVariables false
def ns0 (b p np : Nat) : NS := ⟨p, List.replicate (np * 68) 255, List.replicate b ⟨0, false, false, 0⟩, false, -1, -1, 0, 0, 0⟩
theorem over2_all {α : Type} {xs ys : List α} (h : xs.length = ys.length) : over2 xs 0 ys = ys := by
  simp only [over2, List.take_zero, List.nil_append, Nat.zero_add]
  rw [List.drop_eq_nil_of_le (by omega), List.append_nil]
theorem bk_reps (n : Nat) : reps [.i .i64 0, .b false, .b false, .i .i64 0] n = cellsR rwBk (List.replicate n ⟨0, false, false, 0⟩) := Bk_reps n
theorem nnew_bad (z1 z2 : Int) (h : z1 < 1 ∨ 64 < z1 ∨ z2 < 1 ∨ 32 < z2) : FM Try.prog 9 [.i .i64 z1, .i .i64 z2] [] (fun v M' => v = .tup [.p none, .i .i64 1] ∧ M' = []) := by
  refine FM.pbody (tb := tb) (fn := Try.f9) rfl rfl ?_
  simp only [argS, Nat.reduceAdd, List.length_cons, List.length_nil]
  focus
    refine jq ?_
    refine jg ?_
    iterate 2 refine jo ?_
    refine je ?_
    iterate 2 refine jq ?_
    refine jg ?_
    refine jo ?_
    refine WS.poDS (tb := tb) rfl rfl rfl rfl rfl (fun hb__ => ?_) (fun hb__ => ?_)
    refine jo ?_
    iterate 2 refine jN ?_
    iterate 2 refine jo ?_
    iterate 2 refine jN ?_
    iterate 2 refine jo ?_
    iterate 2 refine jN ?_
    refine jo ?_
    refine je ?_
    refine WS.pcondT rfl rfl ?_
    refine jq ?_
    refine jg ?_
    iterate 2 refine jo ?_
    refine je ?_
    refine WS.pret rfl ⟨.inr rfl, _, rfl, ?_⟩
    rotate_left
    iterate 2 refine jo ?_
    refine WS.poDS (tb := tb) rfl rfl rfl rfl rfl (fun hb__ => ?_) (fun hb__ => ?_)
    iterate 2 refine jo ?_
    iterate 2 refine jN ?_
    iterate 2 refine jo ?_
    iterate 2 refine jN ?_
    refine jo ?_
    refine je ?_
    refine WS.pcondT rfl rfl ?_
    refine jq ?_
    refine jg ?_
    iterate 2 refine jo ?_
    refine je ?_
    refine WS.pret rfl ⟨.inr rfl, _, rfl, ?_⟩
    rotate_left
    iterate 3 refine jo ?_
    refine WS.poDS (tb := tb) rfl rfl rfl rfl rfl (fun hb__ => ?_) (fun hb__ => ?_)
    iterate 2 refine jo ?_
    iterate 2 refine jN ?_
    refine jo ?_
    refine je ?_
    refine WS.pcondT rfl rfl ?_
    refine jq ?_
    refine jg ?_
    iterate 2 refine jo ?_
    refine je ?_
    refine WS.pret rfl ⟨.inr rfl, _, rfl, ?_⟩
    rotate_left
    iterate 3 refine jo ?_
    refine jDT ?_
    refine jo ?_
    refine je ?_
    refine WS.pcondT rfl rfl ?_
    refine jq ?_
    refine jg ?_
    iterate 2 refine jo ?_
    refine je ?_
    refine WS.pret rfl ⟨.inr rfl, _, rfl, ?_⟩
    rotate_left
  all_goals exact ⟨_, rfl, rfl, rfl⟩
theorem nnew_ok (b p np : Nat) (h1 : 1 ≤ b) (h2 : b ≤ 64) (h3 : 1 ≤ p) (h4 : p ≤ 32) (hp : (b : Int) * p = (np : Int)) (hnp : np ≤ 10000) : FM Try.prog 9 [.i .i64 b, .i .i64 p] [] (fun v M' => v = .tup [.p (some (2,0)), .i .i64 0] ∧ M' = ndM (ns0 b p np)) := by
  have hnp0 : 1 ≤ np := by
    have h5 : 1 * 1 ≤ b * p := Nat.mul_le_mul h1 h3
    have h6 : ((b * p : Nat) : Int) = (np : Int) := by push_cast; exact hp
    omega
  have hn : (np : Int) * 68 = ((np * 68 : Nat) : Int) := by omega
  have F := fill_walk (List.replicate (np * 68) 0) 0 (np * 68) (np * 68) 255 false (by rw [List.length_replicate]; omega) (by rw [List.length_replicate]; omega)
  rw [over2_all (by simp)] at F
  refine FM.pbody (tb := tb) (fn := Try.f9) rfl rfl ?_
  simp only [argS, Nat.reduceAdd, List.length_cons, List.length_nil]
  have key : ∀ Q : Ex → T V → LH → Prop, ∀ k : List Fm, ∀ S : List (Nat × V), lk S 0 = some (.i .i64 b) → lk S 1 = some (.i .i64 p) →
      WS Try.prog (frameN Try.f9 2) 0 k (slt [(6, .p (some (2,0)))]) (mem 0 [some ⟨cellsR (rwI .u8) (List.replicate (np * 68) 0), 5, true⟩, some ⟨cellsR rwBk (List.replicate b ⟨0, false, false, 0⟩), 70, true⟩,
        some ⟨[.i .i64 p, .sl (some (0,0)) (np * 68) (np * 68) false, .sl (some (1,0)) b b false, .b false, .i .i64 (-1), .i .i64 (-1), .i .i64 0, .i .i64 0, .i .i64 0], 66, true⟩]) Q →
      WS Try.prog (frameN Try.f9 2) 0 (.c (k1 (k2 (k2 (kb Try.f9)))) :: k) (slt S) (mem 0 []) Q := by
    intro Q k S l0 l1 hQ
    have hb0 : evS S (.tmp 0) = some (.i .i64 b) := l0
    have hb1 : evS S (.tmp 1) = some (.i .i64 p) := l1
    refine WS.panyN 11 rfl (by kernel_rfl) rfl ?_
    refine WA.p (tb := tb) 0 rfl rfl (by kernel_rfl) (by kernel_rfl) (by kernel_rfl) rfl rfl l1 ?_
    refine WA.p (tb := tb) 1 rfl rfl (by kernel_rfl) (by kernel_rfl) (by kernel_rfl) rfl rfl l0 ?_
    refine WA.p (tb := tb) 2 rfl rfl (by kernel_rfl) (by kernel_rfl) (by kernel_rfl) rfl rfl l1 ?_
    refine WA.p (tb := tb) 3 rfl rfl (by kernel_rfl) (by kernel_rfl) (by kernel_rfl) rfl rfl (evP_mulV rfl rfl rfl hp (by simp only [lo]; omega) (by simp only [Am.hi]; omega)) ?_
    refine WA.p (tb := tb) 4 rfl rfl (by kernel_rfl) (by kernel_rfl) (by kernel_rfl) rfl rfl (evP_mulV rfl rfl rfl hn (by simp only [lo]; omega) (by simp only [Am.hi]; omega)) ?_
    refine WA.p (tb := tb) 6 rfl rfl (by kernel_rfl) (by kernel_rfl) (by kernel_rfl) rfl rfl l0 ?_
    refine WA.e2 (tb := tb) 5 7 (by kernel_rfl) rfl rfl rfl rfl rfl rfl rfl rfl
      (step_H rfl rfl (evH_make (m := np * 68) (n := np * 68) rfl rfl rfl rfl rfl rfl rfl rfl (by omega) rfl rfl (Nat.le_refl _) (by omega) (by omega)))
      (step_H rfl rfl (evH_make (m := b) (n := b) rfl rfl rfl rfl rfl rfl rfl rfl (by omega) rfl rfl (Nat.le_refl _) (by omega) (by omega))) ?_ ?_
    · refine WA.mem_eq (new_mem _ _ _) ?_
      refine WA.e (tb := tb) 7 (by kernel_rfl) rfl rfl rfl rfl (step_H rfl rfl (evH_make (m := b) (n := b) rfl rfl rfl rfl rfl rfl rfl rfl (by omega) rfl rfl (Nat.le_refl _) (by omega) (by omega))) ?_
      refine WA.mem_eq (new_mem _ _ _) ?_
      refine WA.e (tb := tb) 8 (by kernel_rfl) rfl rfl rfl rfl (step_P rfl) ?_
      refine WA.e (tb := tb) 9 (by kernel_rfl) rfl rfl rfl rfl (step_H rfl rfl rfl) ?_
      refine WA.mem_eq (new_mem _ _ _) ?_
      refine WA.e (tb := tb) 10 (by kernel_rfl) rfl rfl rfl rfl (step_P rfl) ?_
      simp only [List.cons_append, List.nil_append, vcells, mem_next, List.length_cons, List.length_nil, Nat.zero_add, Nat.reduceAdd, bk_reps, repsI, setL, List.set_cons_zero, List.set_cons_succ]
      exact WA.seen [0,1,2] (by kernel_rfl) (jSb (by simp [jVb, jOb, jMb, mapL_cellsR, okL_cellsR]) (by simp only [jSl, jOb, jMb, Nat.reduceAdd, Nat.reduceLT] <;> exact jClo)) hQ
    · refine WA.mem_eq (new_mem _ _ _) ?_
      refine WA.e (tb := tb) 5 (by kernel_rfl) rfl rfl rfl rfl (step_H rfl rfl (evH_make (m := np * 68) (n := np * 68) rfl rfl rfl rfl rfl rfl rfl rfl (by omega) rfl rfl (Nat.le_refl _) (by omega) (by omega))) ?_
      refine WA.mem_eq (new_mem _ _ _) ?_
      refine WA.e (tb := tb) 8 (by kernel_rfl) rfl rfl rfl rfl (step_P rfl) ?_
      refine WA.e (tb := tb) 9 (by kernel_rfl) rfl rfl rfl rfl (step_H rfl rfl rfl) ?_
      refine WA.mem_eq (new_mem _ _ _) ?_
      refine WA.e (tb := tb) 10 (by kernel_rfl) rfl rfl rfl rfl (step_P rfl) ?_
      simp only [List.cons_append, List.nil_append, vcells, mem_next, List.length_cons, List.length_nil, Nat.zero_add, Nat.reduceAdd, bk_reps, repsI, setL, List.set_cons_zero, List.set_cons_succ]
      exact WA.seen [1,0,2] (by kernel_rfl) (jSb (by simp [jVb, jOb, jMb, mapL_cellsR, okL_cellsR]) (by simp only [jSl, jOb, jMb, Nat.reduceAdd, Nat.reduceLT] <;> exact jClo)) hQ
  refine jq ?_
  refine jg ?_
  iterate 2 refine jo ?_
  refine je ?_
  iterate 2 refine jq ?_
  refine jg ?_
  refine jo ?_
  refine jDF ?_
  iterate 2 refine jo ?_
  refine jDF ?_
  iterate 3 refine jo ?_
  refine jDF ?_
  iterate 3 refine jo ?_
  refine jDF ?_
  refine jo ?_
  refine je ?_
  refine WS.pcondF rfl rfl ?_
  refine WS.pskip rfl ?_
  refine jq ?_
  refine key _ _ _ rfl rfl ?_
  refine jq ?_
  refine jg ?_
  iterate 2 refine jo ?_
  refine jP ?_
  refine jo ?_
  refine jc [0] F (by simp [jOb]) (by simp [jEb, jOb, jMb, mapL_cellsR, okL_cellsR]) ?_; rintro _ _ ⟨rfl, rfl⟩ -; simp only [jPg, jMb, ll, Nat.reduceAdd, Nat.reduceLT, Nat.zero_add, if_true, if_false, Nat.reduceSub, reduceIte, mapL_cellsR, Nat.lt_irrefl, Nat.not_lt_zero, Nat.zero_lt_succ, Nat.lt_add_one]
  refine je ?_
  refine jq ?_
  refine jg ?_
  iterate 3 refine jo ?_
  refine je ?_
  refine WS.pret rfl ⟨.inr rfl, _, rfl, ?_⟩
  exact ⟨_, rfl, rfl, by simp [ndM, ns0]⟩
end Go.Proofs.Ytmkolibmadbenaa.Am

