/- Functions of the pages, walked. Conditions: those of each theorem. -/
import Derived.Test.YtnogdgdkeojlpaaAm5
import Derived.Test.YtnogdgdkeojlpaaTb
namespace Go.Proofs.Ytnogdgdkeojlpaa.Am
open Go.Proofs
set_option maxRecDepth 1000000
set_option maxHeartbeats 4000000
set_option linter.unusedSimpArgs false
set_option linter.unusedVariables false
/-- One bit, and one byte, of the sum. -/
def cb (c : Int) : Int := if Go.bits .and .u32 c 1 = 1 then Go.bits .xor .u32 (c.fdiv 2) 3988292384 else c.fdiv 2
def cbN : Nat → Int → Int
  | 0, c => c
  | k + 1, c => cb (cbN k c)
def cby (c x : Int) : Int := cbN 8 (Go.bits .xor .u32 c x)
def cfold (c : Int) (l : List Int) : Int := l.foldl cby c
def crcM (s : Int) (l : List Int) : Int := Go.bits .xor .u32 4294967295 (cfold (Go.bits .xor .u32 4294967295 s) l)
theorem cfold_take {l : List Int} {i : Nat} {x c : Int} (h : l[i]? = some x) : cfold c (l.take (i + 1)) = cby (cfold c (l.take i)) x := by
  rw [List.take_add_one, h]; simp [cfold]
theorem more_walk (s : Int) (I : List Int) (n c : Nat) (q : Bool) (hb : Byt I) (hn : n ≤ I.length) (hl : I.length ≤ 9223372036854775807) :
    FM Try.prog 26 [.i .u32 s, .sl (some (0,0)) n c q] [some ⟨cellsR (rwI .u8) I, 5, false⟩] (fun v M' => v = .i .u32 (crcM s (I.take n)) ∧ M' = [some ⟨cellsR (rwI .u8) I, 5, false⟩]) := by
  refine FM.pbody (tb := tb) (fn := Try.f26) rfl rfl ?_
  simp only [argS, Nat.reduceAdd, List.length_cons, List.length_nil]
  refine jq ?_
  refine jg ?_
  refine jo ?_
  refine je ?_
  refine jq ?_
  refine jg ?_
  iterate 3 refine jo ?_
  refine je ?_
  iterate 2 refine jq ?_
  refine jg ?_
  iterate 3 refine jo ?_
  refine je ?_
  refine WS.pblock rfl ?_
  obtain ⟨c0, hc0⟩ : ∃ c0, c0 = Go.bits .xor .u32 4294967295 s := ⟨_, rfl⟩
  refine WS.ploopI (σ := Nat) (τ := Unit) (fun i => [(5, .i .u32 (cfold c0 (I.take i))), (11, .sl (some (0,0)) n c q), (12, .i .i64 n), (13, .i .i64 i)]) (fun _ => [some ⟨cellsR (rwI .u8) I, 5, false⟩]) (fun i => i ≤ n) (fun i => n - i) (fun _ => [(5, .i .u32 (cfold c0 (I.take n)))]) (fun _ => [some ⟨cellsR (rwI .u8) I, 5, false⟩]) (fun _ => True) 0 [0] 0 rfl (Nat.zero_le _) (jSb (by simp [jVb, jOb, jMb, mapL_cellsR, okL_cellsR, cfold, hc0]) (by simp only [jSl, jOb, jMb, Nat.reduceAdd, Nat.reduceLT, cfold, hc0] <;> exact jClo)) rfl ?_ ?_
  · intro i hi
    by_cases h : i < n
    · obtain ⟨x, hx⟩ : ∃ x, I[i]? = some x := ⟨_, List.getElem?_eq_getElem (by omega)⟩
      have hx1 := hb x (List.mem_of_getElem? hx)
      have ht := cfold_take (c := c0) hx
      generalize cfold c0 (I.take i) = c1 at *
      refine jq ?_
      refine jg ?_
      refine jDT ?_
      refine je ?_
      refine jq ?_
      refine WS.pcondT rfl rfl ?_
      refine WS.pskip rfl ?_
      refine jq ?_
      refine WS.pblock rfl ?_
      refine jq ?_
      refine jg ?_
      refine jI ?_
      refine WS.po (tb := tb) rfl rfl rfl rfl (step_R rfl (evR_load rfl rfl rfl rfl (cellsI_get hx))) ?_
      refine jo ?_
      refine je ?_
      refine jq ?_
      refine jg ?_
      iterate 2 refine jo ?_
      refine jW ?_
      iterate 2 refine jo ?_
      refine je ?_
      refine jq ?_
      refine jg ?_
      refine jo ?_
      refine je ?_
      refine WS.pblock rfl ?_
      refine WS.ploopI (σ := Nat) (τ := Unit) (fun k => [(5, .i .u32 (cbN k (Go.bits .xor .u32 c1 x))), (11, .sl (some (0,0)) n c q), (12, .i .i64 n), (13, .i .i64 i), (21, .i .i64 k)]) (fun _ => [some ⟨cellsR (rwI .u8) I, 5, false⟩]) (fun k => k ≤ 8) (fun k => 8 - k) (fun _ => [(5, .i .u32 (cby c1 x)), (11, .sl (some (0,0)) n c q), (12, .i .i64 n), (13, .i .i64 i)]) (fun _ => [some ⟨cellsR (rwI .u8) I, 5, false⟩]) (fun _ => True) 2 [0] 0 rfl (Nat.zero_le _) (jSb (by simp [jVb, jOb, jMb, mapL_cellsR, okL_cellsR, cbN]) (by simp only [jSl, jOb, jMb, Nat.reduceAdd, Nat.reduceLT, cbN] <;> exact jClo)) rfl ?_ ?_
      · intro k hk
        by_cases h8 : k < 8
        · have e1 : cbN (k + 1) (Go.bits .xor .u32 c1 x) = cb (cbN k (Go.bits .xor .u32 c1 x)) := rfl
          generalize cbN k (Go.bits .xor .u32 c1 x) = y at *
          by_cases h1 : Go.bits .and .u32 y 1 = 1
          · have e2 : cb y = Go.bits .xor .u32 (y.fdiv 2) 3988292384 := by unfold cb; rw [if_pos h1]
            refine jq ?_
            refine jg ?_
            refine jDT ?_
            refine je ?_
            refine jq ?_
            refine WS.pcondT rfl rfl ?_
            refine WS.pskip rfl ?_
            refine jq ?_
            refine WS.pblock rfl ?_
            refine jq ?_
            refine jg ?_
            iterate 3 refine jo ?_
            refine je ?_
            refine jq ?_
            refine jg ?_
            iterate 3 refine jo ?_
            refine je ?_
            refine jq ?_
            refine jg ?_
            refine jo ?_
            refine jDT ?_
            refine je ?_
            refine WS.pcondT rfl rfl ?_
            refine jg ?_
            iterate 3 refine jo ?_
            refine je ?_
            refine jg ?_
            refine jW ?_
            refine jo ?_
            refine je ?_
            refine WS.nil ?_
            exact ⟨k + 1, by omega, by omega, (jSn [0] (by simp [jVb, jOb, jMb, mapL_cellsR, okL_cellsR, e1, e2]) (by simp only [jSl, jOb, jMb, Nat.reduceAdd, Nat.reduceLT, e1, e2] <;> exact jClo))⟩
          · have e2 : cb y = y.fdiv 2 := by unfold cb; rw [if_neg h1]
            refine jq ?_
            refine jg ?_
            refine jDT ?_
            refine je ?_
            refine jq ?_
            refine WS.pcondT rfl rfl ?_
            refine WS.pskip rfl ?_
            refine jq ?_
            refine WS.pblock rfl ?_
            refine jq ?_
            refine jg ?_
            iterate 3 refine jo ?_
            refine je ?_
            refine jq ?_
            refine jg ?_
            iterate 3 refine jo ?_
            refine je ?_
            refine jq ?_
            refine jg ?_
            refine jo ?_
            refine jDF ?_
            refine je ?_
            refine WS.pcondF rfl rfl ?_
            refine WS.pskip rfl ?_
            refine jg ?_
            refine jW ?_
            refine jo ?_
            refine je ?_
            refine WS.nil ?_
            exact ⟨k + 1, by omega, by omega, (jSn [0] (by simp [jVb, jOb, jMb, mapL_cellsR, okL_cellsR, e1, e2]) (by simp only [jSl, jOb, jMb, Nat.reduceAdd, Nat.reduceLT, e1, e2] <;> exact jClo))⟩
        · obtain rfl : k = 8 := by omega
          refine jq ?_
          refine jg ?_
          refine jB false ?_
          refine je ?_
          refine jq ?_
          refine WS.pcondF rfl rfl ?_
          refine WS.pout rfl rfl ?_
          exact ⟨rfl, (), trivial, (jSn [0] (by simp [jVb, jOb, jMb, mapL_cellsR, okL_cellsR, cby]) (by simp only [jSl, jOb, jMb, Nat.reduceAdd, Nat.reduceLT, cby] <;> exact jClo))⟩
      · rintro _ -
        refine jg ?_
        refine jW ?_
        refine jo ?_
        refine je ?_
        refine WS.nil ?_
        exact ⟨i + 1, by omega, by omega, (jSn [0] (by simp [jVb, jOb, jMb, mapL_cellsR, okL_cellsR, ht]) (by simp only [jSl, jOb, jMb, Nat.reduceAdd, Nat.reduceLT, ht] <;> exact jClo))⟩
    · obtain rfl : i = n := by omega
      refine jq ?_
      refine jg ?_
      refine jDF ?_
      refine je ?_
      refine jq ?_
      refine WS.pcondF rfl rfl ?_
      refine WS.pout rfl rfl ?_
      exact ⟨rfl, (), trivial, (jSn [0] (by simp [jVb, jOb, jMb, mapL_cellsR, okL_cellsR]) (by simp only [jSl, jOb, jMb, Nat.reduceAdd, Nat.reduceLT] <;> exact jClo))⟩
  · rintro _ -
    have e : crcM s (I.take n) = Go.bits .xor .u32 4294967295 (cfold c0 (I.take n)) := by rw [hc0]; rfl
    rw [e]
    refine jq ?_
    refine jg ?_
    iterate 3 refine jo ?_
    refine je ?_
    refine WS.pret rfl ⟨.inr rfl, _, rfl, ?_⟩
    exact ⟨_, rfl, rfl, rfl⟩
end Go.Proofs.Ytnogdgdkeojlpaa.Am

