/- Functions of the pages, walked. Conditions: those of each theorem. -/
import Derived.Test.YtnogdgdkeojlpaaAm5
import Derived.Test.YtnogdgdkeojlpaaTg1
namespace Go.Proofs.Ytnogdgdkeojlpaa.Am
open Go.Proofs
set_option maxRecDepth 1000000
set_option maxHeartbeats 4000000
set_option linter.unusedSimpArgs false
set_option linter.unusedVariables false
theorem sum_walk (I : List Int) (n c : Nat) (q : Bool) (hb : Byt I) (hn : n ≤ I.length) (hl : I.length ≤ 9223372036854775807) :
    FM Try.prog 20 [.sl (some (0,0)) n c q] [some ⟨cellsR (rwI .u8) I, 5, false⟩] (fun v M' => v = .i .u32 (crcM 0 (I.take n)) ∧ M' = [some ⟨cellsR (rwI .u8) I, 5, false⟩]) := by
  have MW := more_walk 0 I n c q hb hn hl
  refine FM.pbody (tb := tb) (fn := Try.f20) rfl rfl ?_
  simp only [argS, Nat.reduceAdd, List.length_cons, List.length_nil]
  refine jq ?_
  refine jg ?_
  refine jo ?_
  refine je ?_
  refine jq ?_
  refine jg ?_
  refine jo ?_
  refine jc [0] MW (by simp [jOb]) (by simp [jEb, jOb, jMb, mapL_cellsR, okL_cellsR]) ?_; rintro _ _ ⟨rfl, rfl⟩ -; simp only [jPg, jMb, ll, Nat.reduceAdd, Nat.reduceLT, Nat.zero_add, if_true, if_false, Nat.reduceSub, reduceIte, mapL_cellsR, Nat.lt_irrefl, Nat.not_lt_zero, Nat.zero_lt_succ, Nat.lt_add_one]
  refine jo ?_
  refine je ?_
  refine WS.pret rfl ⟨.inr rfl, _, rfl, ?_⟩
  exact ⟨_, rfl, rfl, rfl⟩
def rb (c b : Int) : Int := if Go.bits .and .u32 (Go.bits .xor .u32 c b) 1 = 1 then Go.bits .xor .u32 (c.fdiv 2) 3988292384 else c.fdiv 2
theorem bit_walk (c b : Int) : FM Try.prog 37 [.i .u32 c, .i .u32 b] [] (fun v M' => v = .i .u32 (rb c b) ∧ M' = []) := by
  refine FM.pbody (tb := tb) (fn := Try.f37) rfl rfl ?_
  simp only [argS, Nat.reduceAdd, List.length_cons, List.length_nil]
  by_cases h : Go.bits .and .u32 (Go.bits .xor .u32 c b) 1 = 1
  · have e : rb c b = Go.bits .xor .u32 (c.fdiv 2) 3988292384 := by unfold rb; rw [if_pos h]
    rw [e]
    refine jq ?_
    refine jg ?_
    refine jo ?_
    refine je ?_
    iterate 2 refine jq ?_
    refine jg ?_
    iterate 4 refine jo ?_
    refine jDT ?_
    refine je ?_
    refine WS.pcondT rfl rfl ?_
    refine jq ?_
    refine jg ?_
    iterate 4 refine jo ?_
    refine je ?_
    refine WS.pret rfl ⟨.inr rfl, _, rfl, ?_⟩
    exact ⟨_, rfl, rfl, rfl⟩
  · have e : rb c b = c.fdiv 2 := by unfold rb; rw [if_neg h]
    rw [e]
    refine jq ?_
    refine jg ?_
    refine jo ?_
    refine je ?_
    iterate 2 refine jq ?_
    refine jg ?_
    iterate 4 refine jo ?_
    refine jDF ?_
    refine je ?_
    refine WS.pcondF rfl rfl ?_
    refine WS.pskip rfl ?_
    refine jq ?_
    refine jg ?_
    iterate 3 refine jo ?_
    refine je ?_
    refine WS.pret rfl ⟨.inr rfl, _, rfl, ?_⟩
    exact ⟨_, rfl, rfl, rfl⟩
def rbN (x : Int) : Nat → Int → Int
  | 0, c => c
  | k + 1, c => rb (rbN x k c) (Go.bits .and .u32 (x.fdiv (pow2 (min k 8))) 1)
def rby (c x : Int) : Int := rbN x 8 c
def rfold (c : Int) (l : List Int) : Int := l.foldl rby c
def rcrM (s : Int) (l : List Int) : Int := Go.bits .xor .u32 (rfold (Go.bits .xor .u32 s 4294967295) l) 4294967295
theorem rfold_take {l : List Int} {i : Nat} {x c : Int} (h : l[i]? = some x) : rfold c (l.take (i + 1)) = rby (rfold c (l.take i)) x := by
  rw [List.take_add_one, h]; simp [rfold]
theorem rmore_walk (s : Int) (I : List Int) (n c : Nat) (q : Bool) (hb : Byt I) (hn : n ≤ I.length) (hl : I.length ≤ 9223372036854775807) :
    FM Try.prog 30 [.i .u32 s, .sl (some (0,0)) n c q] [some ⟨cellsR (rwI .u8) I, 5, false⟩] (fun v M' => v = .i .u32 (rcrM s (I.take n)) ∧ M' = [some ⟨cellsR (rwI .u8) I, 5, false⟩]) := by
  refine FM.pbody (tb := tb) (fn := Try.f30) rfl rfl ?_
  simp only [argS, Nat.reduceAdd, List.length_cons, List.length_nil]
  refine jq ?_
  refine jg ?_
  refine jo ?_
  refine je ?_
  refine jq ?_
  refine jg ?_
  iterate 3 refine jo ?_
  refine je ?_
  iterate 2 refine jq ?_
  refine jg ?_
  refine jo ?_
  refine je ?_
  refine WS.pblock rfl ?_
  obtain ⟨c0, hc0⟩ : ∃ c0, c0 = Go.bits .xor .u32 s 4294967295 := ⟨_, rfl⟩
  refine WS.ploopI (σ := Nat) (τ := Unit) (fun i => [(1, .sl (some (0,0)) n c q), (5, .i .u32 (rfold c0 (I.take i))), (6, .i .i64 i)]) (fun _ => [some ⟨cellsR (rwI .u8) I, 5, false⟩]) (fun i => i ≤ n) (fun i => n - i) (fun _ => [(5, .i .u32 (rfold c0 (I.take n)))]) (fun _ => [some ⟨cellsR (rwI .u8) I, 5, false⟩]) (fun _ => True) 0 [0] 0 rfl (Nat.zero_le _) (jSb (by simp [jVb, jOb, jMb, mapL_cellsR, okL_cellsR, rfold, hc0]) (by simp only [jSl, jOb, jMb, Nat.reduceAdd, Nat.reduceLT, rfold, hc0] <;> exact jClo)) rfl ?_ ?_
  · intro i hi
    by_cases h : i < n
    · obtain ⟨x, hx⟩ : ∃ x, I[i]? = some x := ⟨_, List.getElem?_eq_getElem (by omega)⟩
      have hx1 := hb x (List.mem_of_getElem? hx)
      have ht := rfold_take (c := c0) hx
      generalize rfold c0 (I.take i) = c1 at *
      iterate 2 refine jq ?_
      refine jg ?_
      iterate 3 refine jo ?_
      refine jDT ?_
      refine je ?_
      refine WS.pcondT rfl rfl ?_
      refine WS.pskip rfl ?_
      refine jq ?_
      refine WS.pblock rfl ?_
      refine jq ?_
      refine jg ?_
      refine jo ?_
      refine je ?_
      refine WS.pblock rfl ?_
      refine WS.ploopI (σ := Nat) (τ := Unit) (fun k => [(1, .sl (some (0,0)) n c q), (5, .i .u32 (rbN x k c1)), (6, .i .i64 i), (7, .i .i64 k)]) (fun _ => [some ⟨cellsR (rwI .u8) I, 5, false⟩]) (fun k => k ≤ 8) (fun k => 8 - k) (fun _ => [(1, .sl (some (0,0)) n c q), (5, .i .u32 (rby c1 x)), (6, .i .i64 i)]) (fun _ => [some ⟨cellsR (rwI .u8) I, 5, false⟩]) (fun _ => True) 2 [0] 0 rfl (Nat.zero_le _) (jSb (by simp [jVb, jOb, jMb, mapL_cellsR, okL_cellsR, rbN]) (by simp only [jSl, jOb, jMb, Nat.reduceAdd, Nat.reduceLT, rbN] <;> exact jClo)) rfl ?_ ?_
      · intro k hk
        by_cases h8 : k < 8
        · have e1 : rbN x (k + 1) c1 = rb (rbN x k c1) (Go.bits .and .u32 (x.fdiv (pow2 (min k 8))) 1) := rfl
          have hp : 0 < pow2 (min k 8) := by unfold pow2; have := Nat.two_pow_pos (min k 8); omega
          have hf : 0 ≤ x.fdiv (pow2 (min k 8)) ∧ x.fdiv (pow2 (min k 8)) ≤ 255 := by
            rw [Int.fdiv_eq_ediv_of_nonneg _ (by omega)]
            exact ⟨Int.ediv_nonneg (by omega) (by omega), Int.le_trans (Int.ediv_le_self _ (by omega)) (by omega)⟩
          have B := fun u v => bit_walk u v
          have ew : wr .u32 (x.fdiv (pow2 (min (k : Int).toNat IntKind.u8.bits))) = x.fdiv (pow2 (min k 8)) := by
            show wr .u32 (x.fdiv (pow2 (min k 8))) = _
            unfold wr
            rw [if_pos (by simp only [lo]; omega), if_pos (by simp only [Am.hi]; omega)]
          generalize rbN x k c1 = y at *
          iterate 2 refine jq ?_
          refine jg ?_
          refine jo ?_
          refine jDT ?_
          refine je ?_
          refine WS.pcondT rfl rfl ?_
          refine WS.pskip rfl ?_
          refine jq ?_
          refine WS.pblock rfl ?_
          refine jg ?_
          iterate 3 refine jo ?_
          refine jI ?_
          refine WS.po (tb := tb) rfl rfl rfl rfl (step_R rfl (evR_load rfl rfl rfl rfl (cellsI_get hx))) ?_
          refine jo ?_
          refine jW ?_
          iterate 3 refine jo ?_
          refine jc [] (B _ _) (by simp [jOb]) (by simp [jEb, jOb, jMb, mapL_cellsR, okL_cellsR]) ?_; rintro _ _ ⟨rfl, rfl⟩ -; simp only [jPg, jMb, ll, Nat.reduceAdd, Nat.reduceLT, Nat.zero_add, if_true, if_false, Nat.reduceSub, reduceIte, mapL_cellsR, Nat.lt_irrefl, Nat.not_lt_zero, Nat.zero_lt_succ, Nat.lt_add_one]
          refine jo ?_
          refine je ?_
          refine jg ?_
          refine jo ?_
          refine jW ?_
          refine jo ?_
          refine je ?_
          refine WS.nil ?_
          exact ⟨k + 1, by omega, by omega, (jSn [0] (by simp [jVb, jOb, jMb, mapL_cellsR, okL_cellsR, e1, ew]) (by simp only [jSl, jOb, jMb, Nat.reduceAdd, Nat.reduceLT, e1, ew] <;> exact jClo))⟩
        · obtain rfl : k = 8 := by omega
          iterate 2 refine jq ?_
          refine jg ?_
          refine jo ?_
          refine jB false ?_
          refine je ?_
          refine WS.pcondF rfl rfl ?_
          refine WS.pout rfl rfl ?_
          exact ⟨rfl, (), trivial, (jSn [0] (by simp [jVb, jOb, jMb, mapL_cellsR, okL_cellsR, rby]) (by simp only [jSl, jOb, jMb, Nat.reduceAdd, Nat.reduceLT, rby] <;> exact jClo))⟩
      · rintro _ -
        refine jg ?_
        refine jo ?_
        refine jW ?_
        refine jo ?_
        refine je ?_
        refine WS.nil ?_
        exact ⟨i + 1, by omega, by omega, (jSn [0] (by simp [jVb, jOb, jMb, mapL_cellsR, okL_cellsR, ht]) (by simp only [jSl, jOb, jMb, Nat.reduceAdd, Nat.reduceLT, ht] <;> exact jClo))⟩
    · obtain rfl : i = n := by omega
      iterate 2 refine jq ?_
      refine jg ?_
      iterate 3 refine jo ?_
      refine jDF ?_
      refine je ?_
      refine WS.pcondF rfl rfl ?_
      refine WS.pout rfl rfl ?_
      exact ⟨rfl, (), trivial, (jSn [0] (by simp [jVb, jOb, jMb, mapL_cellsR, okL_cellsR]) (by simp only [jSl, jOb, jMb, Nat.reduceAdd, Nat.reduceLT] <;> exact jClo))⟩
  · rintro _ -
    have e : rcrM s (I.take n) = Go.bits .xor .u32 (rfold c0 (I.take n)) 4294967295 := by rw [hc0]; rfl
    rw [e]
    refine jq ?_
    refine jg ?_
    iterate 3 refine jo ?_
    refine je ?_
    refine WS.pret rfl ⟨.inr rfl, _, rfl, ?_⟩
    exact ⟨_, rfl, rfl, rfl⟩
theorem rsum_walk (I : List Int) (n c : Nat) (q : Bool) (hb : Byt I) (hn : n ≤ I.length) (hl : I.length ≤ 9223372036854775807) :
    FM Try.prog 24 [.sl (some (0,0)) n c q] [some ⟨cellsR (rwI .u8) I, 5, false⟩] (fun v M' => v = .i .u32 (rcrM 0 (I.take n)) ∧ M' = [some ⟨cellsR (rwI .u8) I, 5, false⟩]) := by
  have MW := rmore_walk 0 I n c q hb hn hl
  refine FM.pbody (tb := tb) (fn := Try.f24) rfl rfl ?_
  simp only [argS, Nat.reduceAdd, List.length_cons, List.length_nil]
  refine jq ?_
  refine jg ?_
  refine jo ?_
  refine je ?_
  refine jq ?_
  refine jg ?_
  refine jo ?_
  refine jc [0] MW (by simp [jOb]) (by simp [jEb, jOb, jMb, mapL_cellsR, okL_cellsR]) ?_; rintro _ _ ⟨rfl, rfl⟩ -; simp only [jPg, jMb, ll, Nat.reduceAdd, Nat.reduceLT, Nat.zero_add, if_true, if_false, Nat.reduceSub, reduceIte, mapL_cellsR, Nat.lt_irrefl, Nat.not_lt_zero, Nat.zero_lt_succ, Nat.lt_add_one]
  refine jo ?_
  refine je ?_
  refine WS.pret rfl ⟨.inr rfl, _, rfl, ?_⟩
  exact ⟨_, rfl, rfl, rfl⟩
end Go.Proofs.Ytnogdgdkeojlpaa.Am

