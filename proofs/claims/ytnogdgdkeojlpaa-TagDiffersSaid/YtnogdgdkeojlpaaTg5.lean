/- Functions of the pages, walked. Conditions: those of each theorem. -/
import Derived.Test.YtnogdgdkeojlpaaAm5
import Derived.Test.YtnogdgdkeojlpaaTg4
namespace Go.Proofs.Ytnogdgdkeojlpaa.Am
open Go.Proofs
set_option maxRecDepth 1000000
set_option maxHeartbeats 4000000
set_option linter.unusedSimpArgs false
set_option linter.unusedVariables false
/-- A page's cells. -/
def pgV (k a b c d e f : Int) (P : List Int) : List V := .i .i64 k :: .i .u32 a :: .i .u32 b :: .i .u32 c :: .i .u32 d :: .i .u32 e :: .i .u32 f :: b32 P
def cE (a b c d e f : Int) : List Int := [a, b, c, d, e, f]
/-- A page's bytes so far. -/
def EB (k : Int) (vs : List Int) : Nat → List Int
  | 0 => (List.replicate 68 0).set 0 (wr .u8 k)
  | i + 1 => over2 (EB k vs i) (4 + 4 * i) (le4 (vs.getD i 0))
theorem EB_len (k : Int) (vs : List Int) : ∀ i, i ≤ 6 → (EB k vs i).length = 68
  | 0, _ => rfl
  | i + 1, h => by
    have := EB_len k vs i (by omega)
    unfold EB; rw [over2_length (by show _ + 4 ≤ _; omega)]; exact this
theorem wr8_byt (v : Int) : 0 ≤ wr .u8 v ∧ wr .u8 v ≤ 255 := by
  rw [wr_eq]; simp only [IntKind.wrap, IntKind.bits, IntKind.signed]; simp; omega
theorem leB_byt (v : Int) (i : Nat) : 0 ≤ leB v i ∧ leB v i ≤ 255 := wr8_byt _
theorem le4_byt (v : Int) : Byt (le4 v) := by
  intro x hx
  simp only [le4, List.mem_cons, List.not_mem_nil, or_false] at hx
  rcases hx with rfl | rfl | rfl | rfl <;> exact leB_byt _ _
theorem over2_byt {xs ys : List Int} {o : Nat} (hx : Byt xs) (hy : Byt ys) : Byt (over2 xs o ys) := by
  intro x h
  simp only [over2, List.mem_append] at h
  rcases h with (h | h) | h
  · exact hx x (List.mem_of_mem_take h)
  · exact hy x h
  · exact hx x (List.mem_of_mem_drop h)
theorem EB_byt (k : Int) (vs : List Int) : ∀ i, Byt (EB k vs i)
  | 0 => by
    intro x hx
    have := List.mem_or_eq_of_mem_set hx
    rcases this with h | rfl
    · have := List.eq_of_mem_replicate h; omega
    · exact wr8_byt _
  | i + 1 => over2_byt (EB_byt k vs i) (le4_byt _)
/-- A page's bytes. -/
def encO (k : Int) (vs P : List Int) : List Int :=
  let X := over2 (EB k vs 6) 28 P
  over2 (over2 X 60 (le4 (crcM 0 (X.take 60)))) 64 [68, 79, 78, 69]
theorem cells_pg {h : LH} {l : Nat} {E : TypeId} {q : Bool} {a0 a1 a2 a3 a4 a5 a6 : V} {P : List Int} (hP : P.length = 32) (hb : h.get l = some ⟨a0 :: a1 :: a2 :: a3 :: a4 :: a5 :: a6 :: b32 P, E, q⟩) : cellsAt h l 7 32 = some (cellsR (rwI .u8) P) := by
  unfold cellsAt
  rw [hb, cells_b32 hP]
  rfl
theorem mark_byt : Byt [68, 79, 78, 69] := by intro x hx; simp at hx; omega
theorem enc_ok (k a b c d e f : Int) (P : List Int) (hk : okK k) (hP : P.length = 32) (hB : Byt P) :
    FM Try.prog 9 [.agg (pgV k a b c d e f P)] [] (fun v M' => v = .tup [.sl (some (0,0)) 68 68 false, .i .i64 0] ∧ M' = [some ⟨cellsR (rwI .u8) (encO k (cE a b c d e f) P), 5, true⟩]) := by
  have K := kind_yes k hk
  have hk2 : 1 ≤ k ∧ k ≤ 3 := by rcases hk with rfl | rfl | rfl <;> omega
  have hwk : wr .u8 k = k := by unfold wr; rw [if_pos (by simp only [lo]; omega), if_pos (by simp only [Am.hi]; omega)]
  obtain ⟨Z, hZ⟩ : ∃ Z : List Int, Z = List.replicate 68 0 := ⟨_, rfl⟩
  have hr0 : reps [V.i .u8 0] 68 = cellsR (rwI .u8) Z := by rw [hZ]; exact repsI _
  have hZl : Z.length = 68 := by rw [hZ]; rfl
  have hst0 : setL (reps [V.i .u8 0] 68) 0 [V.i .u8 k] = cellsR (rwI .u8) (Z.set 0 k) := by rw [hr0]; exact cellsI_set (k := .u8) (xs := Z) (x := k) (i := 0) (by omega)
  have hst1 : (reps [V.i .u8 0] 68).set 0 (V.i .u8 k) = cellsR (rwI .u8) (Z.set 0 k) := hst0
  have e0 : EB k (cE a b c d e f) 0 = Z.set 0 k := by unfold EB; rw [hZ, hwk]
  refine FM.pbodyV (tb := tb) (fn := Try.f9) rfl rfl ?_
  simp only [argS, Nat.reduceAdd, List.length_cons, List.length_nil, pgV]
  refine jq ?_
  refine jg ?_
  refine jn ?_
  iterate 2 refine jo ?_
  refine je ?_
  iterate 2 refine jq ?_
  refine jg ?_
  refine jP ?_
  refine jo ?_
  refine jc [] K (by simp [jOb]) (by simp [jEb, jOb, jMb, mapL_cellsR, okL_cellsR]) ?_; rintro _ _ ⟨rfl, rfl⟩ -; simp only [jPg, jMb, ll, Nat.reduceAdd, Nat.reduceLT, Nat.zero_add, if_true, if_false, Nat.reduceSub, reduceIte, mapL_cellsR, Nat.lt_irrefl, Nat.not_lt_zero, Nat.zero_lt_succ, Nat.lt_add_one]
  refine jB false ?_
  refine je ?_
  refine WS.pcondF rfl rfl ?_
  refine WS.pskip rfl ?_
  refine jq ?_
  refine jg ?_
  refine jn ?_
  refine jo ?_
  refine je ?_
  refine jq ?_
  refine jg ?_
  refine jo ?_
  refine jP ?_
  refine jo ?_
  refine jW ?_
  refine WS.poP (tb := tb) rfl rfl rfl rfl (step_P (evP_index rfl rfl rfl rfl rfl rfl (by simp only [vcells, List.length_cons, List.length_nil, cellsI_len, cellsB_len, List.length_set, List.length_replicate, List.length_append, List.length_map, List.length_take, List.length_drop]; omega))) (by simp only [Nat.zero_add, Nat.add_zero, Nat.reduceAdd, Nat.reduceMul, Nat.add_assoc, Nat.mul_one]; exact rfl) ?_
  refine WS.po0 (tb := tb) rfl rfl rfl rfl (step_H rfl rfl (evH_store rfl rfl rfl rfl rfl (Nat.zero_le _) rfl (by simp [vcells]) (Nat.le_of_ble_eq_true rfl))) ?_; rw [upd_mem _ rfl]; simp only [vcells, List.set_cons_zero, List.set_cons_succ, hst0]; (try simp only [setL, List.set_cons_zero, List.set_cons_succ])
  refine je ?_
  iterate 2 refine jq ?_
  refine jg ?_
  refine jP ?_
  refine jo ?_
  refine jP ?_
  refine jo ?_
  refine jP ?_
  refine jo ?_
  refine jP ?_
  refine jo ?_
  refine jP ?_
  refine jo ?_
  refine jP ?_
  refine jo ?_
  refine WS.poA (tb := tb) rfl rfl rfl rfl rfl (by simp only [vcells, setL, ll, nl, nz, Nat.reduceAdd, Nat.reduceMul, Int.reduceToNat]; exact rfl) ?_
  refine jo ?_
  refine je ?_
  refine WS.pblock rfl ?_
  refine WS.ploopI (σ := Nat) (τ := Unit) (fun i => [(1, .p (some (0,0))), (4, .sl (some (1,0)) 68 68 false), (29, .agg [.i .u32 a, .i .u32 b, .i .u32 c, .i .u32 d, .i .u32 e, .i .u32 f]), (30, .i .i64 i)]) (fun i => [some ⟨.i .i64 k :: .i .u32 a :: .i .u32 b :: .i .u32 c :: .i .u32 d :: .i .u32 e :: .i .u32 f :: b32 P, 30, true⟩, some ⟨cellsR (rwI .u8) (EB k (cE a b c d e f) i), 5, true⟩]) (fun i => i ≤ 6) (fun i => 6 - i) (fun _ => [(1, .p (some (0,0))), (4, .sl (some (1,0)) 68 68 false)]) (fun _ => [some ⟨.i .i64 k :: .i .u32 a :: .i .u32 b :: .i .u32 c :: .i .u32 d :: .i .u32 e :: .i .u32 f :: b32 P, 30, true⟩, some ⟨cellsR (rwI .u8) (EB k (cE a b c d e f) 6), 5, true⟩]) (fun _ => True) 0 [0,1] 0 rfl (Nat.zero_le _) (jSb (by simp [jVb, jOb, jMb, mapL_cellsR, okL_cellsR, okL_b32, mapL_b32, e0, hst1]) (by simp only [jSl, jOb, jMb, Nat.reduceAdd, Nat.reduceLT, okL_b32, mapL_b32, e0, hst1] <;> exact jClo)) rfl ?_ ?_
  · intro i hi
    by_cases h : i < 6
    · have hl := EB_len k (cE a b c d e f) i hi
      have P0 := fun o n v (hn : 4 ≤ n) (ho : o + 4 ≤ 68) => put_walk v (EB k (cE a b c d e f) i) o n n false hn (by omega) (by omega)
      have e1 : EB k (cE a b c d e f) (i + 1) = over2 (EB k (cE a b c d e f) i) (4 + 4 * i) (le4 ((cE a b c d e f).getD i 0)) := rfl
      obtain rfl | rfl | rfl | rfl | rfl | rfl : i = 0 ∨ i = 1 ∨ i = 2 ∨ i = 3 ∨ i = 4 ∨ i = 5 := by omega
      all_goals
        simp only [List.getD_cons_zero, List.getD_cons_succ, cE, Nat.reduceMul, Nat.reduceAdd] at e1
        simp only [cE] at *
        generalize EB k [a, b, c, d, e, f] _ = X at *
      · refine WS.pseq rfl ?_
        refine jg ?_
        refine jB true ?_
        refine je ?_
        refine jq ?_
        refine WS.pcondT rfl rfl ?_
        refine WS.pskip rfl ?_
        refine jq ?_
        refine WS.pblock rfl ?_
        refine jq ?_
        refine jg ?_
        iterate 4 refine jo ?_
        refine je ?_
        refine jg ?_
        iterate 2 refine jo ?_
        iterate 2 refine jW ?_
        refine WS.poV (tb := tb) rfl rfl rfl rfl (step_P (rfl)) (by simp only [Nat.reduceEqDiff, Nat.reduceSub, adv, Option.map_some, reduceIte, if_false, if_true, nl, nz, Nat.reduceAdd, Nat.reduceMul, Int.reduceToNat]; exact rfl) ?_
        refine jo ?_
        refine jc [1] (P0 4 64 a (by omega) (by omega)) (by simp [jOb, mapL_b32, okL_b32]) (by simp [jEb, jOb, jMb, mapL_cellsR, okL_cellsR, mapL_b32, okL_b32]) ?_; rintro _ _ ⟨rfl, rfl⟩ -; simp only [jPg, jMb, ll, Nat.reduceAdd, Nat.reduceLT, Nat.zero_add, if_true, if_false, Nat.reduceSub, reduceIte, mapL_cellsR, Nat.lt_irrefl, Nat.not_lt_zero, Nat.zero_lt_succ, Nat.lt_add_one, mapL_b32, okL_b32]
        refine je ?_
        refine jg ?_
        refine jW ?_
        refine jo ?_
        refine je ?_
        refine WS.nil ?_
        exact ⟨1, by omega, by omega, (jSn [0,1] (by simp [jVb, jOb, jMb, mapL_cellsR, okL_cellsR, okL_b32, mapL_b32, e1]) (by simp only [jSl, jOb, jMb, Nat.reduceAdd, Nat.reduceLT, okL_b32, mapL_b32, e1] <;> exact jClo))⟩
      · refine WS.pseq rfl ?_
        refine jg ?_
        refine jB true ?_
        refine je ?_
        refine jq ?_
        refine WS.pcondT rfl rfl ?_
        refine WS.pskip rfl ?_
        refine jq ?_
        refine WS.pblock rfl ?_
        refine jq ?_
        refine jg ?_
        iterate 4 refine jo ?_
        refine je ?_
        refine jg ?_
        iterate 2 refine jo ?_
        iterate 2 refine jW ?_
        refine WS.poV (tb := tb) rfl rfl rfl rfl (step_P (rfl)) (by simp only [Nat.reduceEqDiff, Nat.reduceSub, adv, Option.map_some, reduceIte, if_false, if_true, nl, nz, Nat.reduceAdd, Nat.reduceMul, Int.reduceToNat]; exact rfl) ?_
        refine jo ?_
        refine jc [1] (P0 8 60 b (by omega) (by omega)) (by simp [jOb, mapL_b32, okL_b32]) (by simp [jEb, jOb, jMb, mapL_cellsR, okL_cellsR, mapL_b32, okL_b32]) ?_; rintro _ _ ⟨rfl, rfl⟩ -; simp only [jPg, jMb, ll, Nat.reduceAdd, Nat.reduceLT, Nat.zero_add, if_true, if_false, Nat.reduceSub, reduceIte, mapL_cellsR, Nat.lt_irrefl, Nat.not_lt_zero, Nat.zero_lt_succ, Nat.lt_add_one, mapL_b32, okL_b32]
        refine je ?_
        refine jg ?_
        refine jW ?_
        refine jo ?_
        refine je ?_
        refine WS.nil ?_
        exact ⟨2, by omega, by omega, (jSn [0,1] (by simp [jVb, jOb, jMb, mapL_cellsR, okL_cellsR, okL_b32, mapL_b32, e1]) (by simp only [jSl, jOb, jMb, Nat.reduceAdd, Nat.reduceLT, okL_b32, mapL_b32, e1] <;> exact jClo))⟩
      · refine WS.pseq rfl ?_
        refine jg ?_
        refine jB true ?_
        refine je ?_
        refine jq ?_
        refine WS.pcondT rfl rfl ?_
        refine WS.pskip rfl ?_
        refine jq ?_
        refine WS.pblock rfl ?_
        refine jq ?_
        refine jg ?_
        iterate 4 refine jo ?_
        refine je ?_
        refine jg ?_
        iterate 2 refine jo ?_
        iterate 2 refine jW ?_
        refine WS.poV (tb := tb) rfl rfl rfl rfl (step_P (rfl)) (by simp only [Nat.reduceEqDiff, Nat.reduceSub, adv, Option.map_some, reduceIte, if_false, if_true, nl, nz, Nat.reduceAdd, Nat.reduceMul, Int.reduceToNat]; exact rfl) ?_
        refine jo ?_
        refine jc [1] (P0 12 56 c (by omega) (by omega)) (by simp [jOb, mapL_b32, okL_b32]) (by simp [jEb, jOb, jMb, mapL_cellsR, okL_cellsR, mapL_b32, okL_b32]) ?_; rintro _ _ ⟨rfl, rfl⟩ -; simp only [jPg, jMb, ll, Nat.reduceAdd, Nat.reduceLT, Nat.zero_add, if_true, if_false, Nat.reduceSub, reduceIte, mapL_cellsR, Nat.lt_irrefl, Nat.not_lt_zero, Nat.zero_lt_succ, Nat.lt_add_one, mapL_b32, okL_b32]
        refine je ?_
        refine jg ?_
        refine jW ?_
        refine jo ?_
        refine je ?_
        refine WS.nil ?_
        exact ⟨3, by omega, by omega, (jSn [0,1] (by simp [jVb, jOb, jMb, mapL_cellsR, okL_cellsR, okL_b32, mapL_b32, e1]) (by simp only [jSl, jOb, jMb, Nat.reduceAdd, Nat.reduceLT, okL_b32, mapL_b32, e1] <;> exact jClo))⟩
      · refine WS.pseq rfl ?_
        refine jg ?_
        refine jB true ?_
        refine je ?_
        refine jq ?_
        refine WS.pcondT rfl rfl ?_
        refine WS.pskip rfl ?_
        refine jq ?_
        refine WS.pblock rfl ?_
        refine jq ?_
        refine jg ?_
        iterate 4 refine jo ?_
        refine je ?_
        refine jg ?_
        iterate 2 refine jo ?_
        iterate 2 refine jW ?_
        refine WS.poV (tb := tb) rfl rfl rfl rfl (step_P (rfl)) (by simp only [Nat.reduceEqDiff, Nat.reduceSub, adv, Option.map_some, reduceIte, if_false, if_true, nl, nz, Nat.reduceAdd, Nat.reduceMul, Int.reduceToNat]; exact rfl) ?_
        refine jo ?_
        refine jc [1] (P0 16 52 d (by omega) (by omega)) (by simp [jOb, mapL_b32, okL_b32]) (by simp [jEb, jOb, jMb, mapL_cellsR, okL_cellsR, mapL_b32, okL_b32]) ?_; rintro _ _ ⟨rfl, rfl⟩ -; simp only [jPg, jMb, ll, Nat.reduceAdd, Nat.reduceLT, Nat.zero_add, if_true, if_false, Nat.reduceSub, reduceIte, mapL_cellsR, Nat.lt_irrefl, Nat.not_lt_zero, Nat.zero_lt_succ, Nat.lt_add_one, mapL_b32, okL_b32]
        refine je ?_
        refine jg ?_
        refine jW ?_
        refine jo ?_
        refine je ?_
        refine WS.nil ?_
        exact ⟨4, by omega, by omega, (jSn [0,1] (by simp [jVb, jOb, jMb, mapL_cellsR, okL_cellsR, okL_b32, mapL_b32, e1]) (by simp only [jSl, jOb, jMb, Nat.reduceAdd, Nat.reduceLT, okL_b32, mapL_b32, e1] <;> exact jClo))⟩
      · refine WS.pseq rfl ?_
        refine jg ?_
        refine jB true ?_
        refine je ?_
        refine jq ?_
        refine WS.pcondT rfl rfl ?_
        refine WS.pskip rfl ?_
        refine jq ?_
        refine WS.pblock rfl ?_
        refine jq ?_
        refine jg ?_
        iterate 4 refine jo ?_
        refine je ?_
        refine jg ?_
        iterate 2 refine jo ?_
        iterate 2 refine jW ?_
        refine WS.poV (tb := tb) rfl rfl rfl rfl (step_P (rfl)) (by simp only [Nat.reduceEqDiff, Nat.reduceSub, adv, Option.map_some, reduceIte, if_false, if_true, nl, nz, Nat.reduceAdd, Nat.reduceMul, Int.reduceToNat]; exact rfl) ?_
        refine jo ?_
        refine jc [1] (P0 20 48 e (by omega) (by omega)) (by simp [jOb, mapL_b32, okL_b32]) (by simp [jEb, jOb, jMb, mapL_cellsR, okL_cellsR, mapL_b32, okL_b32]) ?_; rintro _ _ ⟨rfl, rfl⟩ -; simp only [jPg, jMb, ll, Nat.reduceAdd, Nat.reduceLT, Nat.zero_add, if_true, if_false, Nat.reduceSub, reduceIte, mapL_cellsR, Nat.lt_irrefl, Nat.not_lt_zero, Nat.zero_lt_succ, Nat.lt_add_one, mapL_b32, okL_b32]
        refine je ?_
        refine jg ?_
        refine jW ?_
        refine jo ?_
        refine je ?_
        refine WS.nil ?_
        exact ⟨5, by omega, by omega, (jSn [0,1] (by simp [jVb, jOb, jMb, mapL_cellsR, okL_cellsR, okL_b32, mapL_b32, e1]) (by simp only [jSl, jOb, jMb, Nat.reduceAdd, Nat.reduceLT, okL_b32, mapL_b32, e1] <;> exact jClo))⟩
      · refine WS.pseq rfl ?_
        refine jg ?_
        refine jB true ?_
        refine je ?_
        refine jq ?_
        refine WS.pcondT rfl rfl ?_
        refine WS.pskip rfl ?_
        refine jq ?_
        refine WS.pblock rfl ?_
        refine jq ?_
        refine jg ?_
        iterate 4 refine jo ?_
        refine je ?_
        refine jg ?_
        iterate 2 refine jo ?_
        iterate 2 refine jW ?_
        refine WS.poV (tb := tb) rfl rfl rfl rfl (step_P (rfl)) (by simp only [Nat.reduceEqDiff, Nat.reduceSub, adv, Option.map_some, reduceIte, if_false, if_true, nl, nz, Nat.reduceAdd, Nat.reduceMul, Int.reduceToNat]; exact rfl) ?_
        refine jo ?_
        refine jc [1] (P0 24 44 f (by omega) (by omega)) (by simp [jOb, mapL_b32, okL_b32]) (by simp [jEb, jOb, jMb, mapL_cellsR, okL_cellsR, mapL_b32, okL_b32]) ?_; rintro _ _ ⟨rfl, rfl⟩ -; simp only [jPg, jMb, ll, Nat.reduceAdd, Nat.reduceLT, Nat.zero_add, if_true, if_false, Nat.reduceSub, reduceIte, mapL_cellsR, Nat.lt_irrefl, Nat.not_lt_zero, Nat.zero_lt_succ, Nat.lt_add_one, mapL_b32, okL_b32]
        refine je ?_
        refine jg ?_
        refine jW ?_
        refine jo ?_
        refine je ?_
        refine WS.nil ?_
        exact ⟨6, by omega, by omega, (jSn [0,1] (by simp [jVb, jOb, jMb, mapL_cellsR, okL_cellsR, okL_b32, mapL_b32, e1]) (by simp only [jSl, jOb, jMb, Nat.reduceAdd, Nat.reduceLT, okL_b32, mapL_b32, e1] <;> exact jClo))⟩
    · obtain rfl : i = 6 := by omega
      refine jq ?_
      refine jg ?_
      refine jB false ?_
      refine je ?_
      refine jq ?_
      refine WS.pcondF rfl rfl ?_
      refine WS.pout rfl rfl ?_
      exact ⟨rfl, (), trivial, (jSn [0,1] (by simp [jVb, jOb, jMb, mapL_cellsR, okL_cellsR, okL_b32, mapL_b32]) (by simp only [jSl, jOb, jMb, Nat.reduceAdd, Nat.reduceLT, okL_b32, mapL_b32] <;> exact jClo))⟩
  · rintro _ -
    have hX := EB_len k (cE a b c d e f) 6 (by omega)
    have hXb := EB_byt k (cE a b c d e f) 6
    have e5 : encO k (cE a b c d e f) P = over2 (over2 (over2 (EB k (cE a b c d e f) 6) 28 P) 60 (le4 (crcM 0 ((over2 (EB k (cE a b c d e f) 6) 28 P).take 60)))) 64 [68, 79, 78, 69] := rfl
    rw [e5]
    generalize EB k (cE a b c d e f) 6 = X at *
    have hsp := cellsI_over (K := .u8) (xs := X) (ys := P) (k := 28) (by omega)
    have hY : (over2 X 28 P).length = 68 := by rw [over2_length (by omega)]; exact hX
    have hYb : Byt (over2 X 28 P) := over2_byt hXb hB
    generalize over2 X 28 P = Y at *
    have SW := sum_walk Y 60 68 false hYb (by omega) (by omega)
    have P1 := put_walk (crcM 0 (Y.take 60)) Y 60 8 8 false (by omega) (by omega) (by omega)
    generalize crcM 0 (Y.take 60) = s at *
    have hU : (over2 Y 60 (le4 s)).length = 68 := by rw [over2_length (by show _ + 4 ≤ _; omega)]; exact hY
    generalize over2 Y 60 (le4 s) = U at *
    have hsm := cellsI_over (K := .u8) (xs := U) (ys := [68, 79, 78, 69]) (k := 64) (by show _ + 4 ≤ _; omega)
    refine jq ?_
    refine WS.pdrawX (tb := tb) (by kernel_rfl) rfl (by kernel_rfl) ?_
    refine WZ.p (tb := tb) rfl rfl rfl rfl rfl ?_
    refine WZ.pV (tb := tb) rfl rfl rfl rfl (rfl) (by simp only [Nat.reduceEqDiff, Nat.reduceSub, adv, Option.map_some, reduceIte, if_false, if_true, nl, nz, Nat.reduceAdd, Nat.reduceMul, Int.reduceToNat]; exact rfl) ?_
    refine WZ.pP (tb := tb) rfl rfl rfl rfl rfl (by simp only [nl, nz, Nat.reduceAdd, Nat.reduceMul, Int.reduceToNat]; exact rfl) ?_
    refine WZ.pV (tb := tb) rfl rfl rfl rfl (rfl) (by simp only [Nat.reduceEqDiff, Nat.reduceSub, adv, Option.map_some, reduceIte, if_false, if_true, nl, nz, Nat.reduceAdd, Nat.reduceMul, Int.reduceToNat]; exact rfl) ?_
    refine WZ.e (tb := tb) rfl rfl rfl rfl (⟨rfl, rfl, rfl, evH_copyR rfl rfl rfl rfl rfl (by first | exact Nat.min_eq_left (by omega) | exact Nat.min_eq_right (by omega)) (by omega) (by omega) (cells_pg hP rfl) rfl (Nat.zero_le _) (by first | rfl | exact allI _ _) (by first | exact rfl | (simp only [vcells, List.length_cons, List.length_nil, cellsI_len, cellsB_len, List.length_set, List.length_replicate, List.length_append, List.length_map, List.length_take, List.length_drop, hX, hP, hU] <;> omega) | omega) (by first | exact rfl | (simp only [vcells, List.length_cons, List.length_nil, cellsI_len, cellsB_len, List.length_set, List.length_replicate, List.length_append, List.length_map, List.length_take, List.length_drop, hX, hP, hU] <;> omega) | omega)⟩) (by repeat (first | exact trivial | refine ⟨rfl, ?_⟩)) ?_; rw [upd_mem _ rfl]; simp only [vcells, List.set_cons_zero, List.set_cons_succ, hsp, hsm, mapL_b32, okL_b32]; (try simp only [setL, List.set_cons_zero, List.set_cons_succ])
    refine WZ.fin rfl (by kernel_rfl) (by repeat (first | exact trivial | refine ⟨rfl, ?_⟩)) ?_
    refine jq ?_
    refine WS.pdrawX (tb := tb) (by kernel_rfl) rfl (by kernel_rfl) ?_
    refine WZ.p (tb := tb) rfl rfl rfl rfl rfl ?_
    refine WZ.pV (tb := tb) rfl rfl rfl rfl (rfl) (by simp only [Nat.reduceEqDiff, Nat.reduceSub, adv, Option.map_some, reduceIte, if_false, if_true, nl, nz, Nat.reduceAdd, Nat.reduceMul, Int.reduceToNat]; exact rfl) ?_
    refine WZ.p (tb := tb) rfl rfl rfl rfl rfl ?_
    refine WZ.pV (tb := tb) rfl rfl rfl rfl (rfl) (by simp only [Nat.reduceEqDiff, Nat.reduceSub, adv, Option.map_some, reduceIte, if_false, if_true, nl, nz, Nat.reduceAdd, Nat.reduceMul, Int.reduceToNat]; exact rfl) ?_
    refine WZ.callM (tb := tb) [1] SW rfl rfl rfl rfl rfl rfl rfl rfl (by (try simp only [mapL, mapV, ll]) <;> exact rfl) (by simp [okL, okV, mapL_b32, okL_b32]; fail_if_success exfalso) rfl (by simp [embP, okL, okV, mapL, mapV, mem_next, mem_get, mem_ro, mapL_cellsR, okL_cellsR, mapL_b32, okL_b32]; fail_if_success exfalso) rfl rfl rfl (by repeat (first | exact trivial | refine ⟨rfl, ?_⟩)) ?_; simp only [jPg, jMb, ll, Nat.reduceAdd, Nat.reduceLT, Nat.zero_add, if_true, if_false, Nat.reduceSub, reduceIte, mapL_cellsR, Nat.lt_irrefl, Nat.not_lt_zero, Nat.zero_lt_succ, Nat.lt_add_one, mapL_b32, okL_b32]
    refine WZ.callM (tb := tb) [1] P1 rfl rfl rfl rfl rfl rfl rfl rfl (by (try simp only [mapL, mapV, ll]) <;> exact rfl) (by simp [okL, okV, mapL_b32, okL_b32]; fail_if_success exfalso) rfl (by simp [embP, okL, okV, mapL, mapV, mem_next, mem_get, mem_ro, mapL_cellsR, okL_cellsR, mapL_b32, okL_b32]; fail_if_success exfalso) rfl rfl rfl (by repeat (first | exact trivial | refine ⟨rfl, ?_⟩)) ?_; simp only [jPg, jMb, ll, Nat.reduceAdd, Nat.reduceLT, Nat.zero_add, if_true, if_false, Nat.reduceSub, reduceIte, mapL_cellsR, Nat.lt_irrefl, Nat.not_lt_zero, Nat.zero_lt_succ, Nat.lt_add_one, mapL_b32, okL_b32]
    refine WZ.fin rfl (by kernel_rfl) (by repeat (first | exact trivial | refine ⟨rfl, ?_⟩)) ?_
    refine jq ?_
    refine jg ?_
    refine jo ?_
    refine WS.poV (tb := tb) rfl rfl rfl rfl (step_P (rfl)) (by simp only [Nat.reduceEqDiff, Nat.reduceSub, adv, Option.map_some, reduceIte, if_false, if_true, nl, nz, Nat.reduceAdd, Nat.reduceMul, Int.reduceToNat]; exact rfl) ?_
    refine WS.po (tb := tb) rfl rfl rfl rfl (step_H rfl rfl (evH_copyS rfl rfl rfl (show _ = strOf [68,79,78,69] by kernel_rfl) mark_byt rfl rfl (by first | exact Nat.le_of_ble_eq_true rfl | (simp only [vcells, List.length_cons, List.length_nil, cellsI_len, cellsB_len, List.length_set, List.length_replicate, List.length_append, List.length_map, List.length_take, List.length_drop, hX, hP, hU] <;> omega)) (by first | exact Nat.le_of_ble_eq_true rfl | (simp only [vcells, List.length_cons, List.length_nil, cellsI_len, cellsB_len, List.length_set, List.length_replicate, List.length_append, List.length_map, List.length_take, List.length_drop, hX, hP, hU] <;> omega)) rfl (Nat.zero_le _) (by first | (simp only [vcells, List.length_cons, List.length_nil, cellsI_len, cellsB_len, List.length_set, List.length_replicate, List.length_append, List.length_map, List.length_take, List.length_drop, hX, hP, hU] <;> omega) | omega))) ?_; rw [upd_mem _ rfl]; simp only [vcells, List.set_cons_zero, List.set_cons_succ, hsp, hsm, mapL_b32, okL_b32]; (try simp only [setL, List.set_cons_zero, List.set_cons_succ])
    refine je ?_
    refine jq ?_
    refine jg ?_
    iterate 3 refine jo ?_
    refine je ?_
    refine WS.pret rfl ⟨.inr rfl, _, rfl, ?_⟩
    exact ⟨_, rfl, [1], [some ⟨cellsR (rwI .u8) (over2 U 64 [68, 79, 78, 69]), 5, true⟩], .tup [.sl (some (0,0)) 68 68 false, .i .i64 0], ⟨rfl, rfl, (by simp [jVb, jOb, jMb, mapL_cellsR, okL_cellsR, mapL_b32, okL_b32]), rfl⟩, rfl, ⟨Nat.zero_lt_one, trivial, trivial⟩, rfl, rfl⟩
theorem enc_bad (k a b c d e f : Int) (P : List Int) (hk : ¬ okK k) :
    FM Try.prog 9 [.agg (pgV k a b c d e f P)] [] (fun v M' => v = .tup [.sl none 0 0 false, .i .i64 1] ∧ M' = []) := by
  have K := kind_no k hk
  refine FM.pbodyV (tb := tb) (fn := Try.f9) rfl rfl ?_
  simp only [argS, Nat.reduceAdd, List.length_cons, List.length_nil, pgV]
  refine jq ?_
  refine jg ?_
  refine jn ?_
  iterate 2 refine jo ?_
  refine je ?_
  iterate 2 refine jq ?_
  refine jg ?_
  refine jP ?_
  refine jo ?_
  refine jc [] K (by simp [jOb, mapL_b32, okL_b32]) (by simp [jEb, jOb, jMb, mapL_cellsR, okL_cellsR, mapL_b32, okL_b32]) ?_; rintro _ _ ⟨rfl, rfl⟩ -; simp only [jPg, jMb, ll, Nat.reduceAdd, Nat.reduceLT, Nat.zero_add, if_true, if_false, Nat.reduceSub, reduceIte, mapL_cellsR, Nat.lt_irrefl, Nat.not_lt_zero, Nat.zero_lt_succ, Nat.lt_add_one, mapL_b32, okL_b32]
  refine jB true ?_
  refine je ?_
  refine WS.pcondT rfl rfl ?_
  refine jq ?_
  refine jg ?_
  iterate 2 refine jo ?_
  refine je ?_
  refine WS.pret rfl ⟨.inr rfl, _, rfl, ?_⟩
  exact ⟨_, rfl, [], [], .tup [.sl none 0 0 false, .i .i64 1], ⟨rfl, rfl, (by simp [jVb, jOb, jMb, mapL_cellsR, okL_cellsR, mapL_b32, okL_b32]), rfl⟩, rfl, ⟨trivial, trivial, trivial⟩, rfl, rfl⟩
end Go.Proofs.Ytnogdgdkeojlpaa.Am

