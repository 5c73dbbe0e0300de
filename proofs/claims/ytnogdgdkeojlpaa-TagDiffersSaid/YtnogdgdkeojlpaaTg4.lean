/- Functions of the pages, walked. Conditions: those of each theorem. -/
import Derived.Test.YtnogdgdkeojlpaaAm5
import Derived.Test.YtnogdgdkeojlpaaTg3
namespace Go.Proofs.Ytnogdgdkeojlpaa.Am
open Go.Proofs
set_option maxRecDepth 1000000
set_option maxHeartbeats 4000000
set_option linter.unusedSimpArgs false
set_option linter.unusedVariables false
def cleanB (l : List Int) : Bool := l.length == 68 && l.all (· == 255)
theorem clean_walk (I : List Int) (n c : Nat) (q : Bool) (hb : Byt I) (hn : n ≤ I.length) (hl : I.length ≤ 9223372036854775807) :
    FM Try.prog 11 [.sl (some (0,0)) n c q] [some ⟨cellsR (rwI .u8) I, 5, false⟩] (fun v M' => v = .b (cleanB (I.take n)) ∧ M' = [some ⟨cellsR (rwI .u8) I, 5, false⟩]) := by
  have hJ : (I.take n).length = n := by rw [List.length_take]; omega
  have hbJ : Byt (I.take n) := fun x hx => hb x (List.mem_of_mem_take hx)
  have CW := count_walk I n c 1 q false hb hn hl
  have ha := countI_all hbJ (c := 255) (by omega)
  have hle := countI_le (255 : Int).toNat.toUInt8 (I.take n)
  rw [hJ] at ha hle
  generalize hm : countB (255 : Int).toNat.toUInt8 ((I.take n).map fun n => n.toNat.toUInt8) = m at *
  refine FM.pbodyV (tb := tb) (fn := Try.f11) rfl rfl ?_
  simp only [argS, Nat.reduceAdd, List.length_cons, List.length_nil]
  by_cases h : n = 68
  · by_cases h2 : m = n
    · have e : cleanB (I.take n) = true := by
        unfold cleanB; rw [hJ, Bool.and_eq_true]; exact ⟨by simpa using h, List.all_eq_true.2 fun x hx => by simpa using ha.1 h2 x hx⟩
      refine jq ?_
      refine jg ?_
      refine jo ?_
      refine je ?_
      refine jq ?_
      refine jg ?_
      iterate 2 refine jo ?_
      refine jDT ?_
      iterate 2 refine jo ?_
      refine jn ?_
      refine jc [0,1] CW (by simp [jOb]) (by simp [jEb, jOb, jMb, mapL_cellsR, okL_cellsR]) ?_; rintro _ _ ⟨rfl, rfl⟩ -; simp only [jPg, jMb, ll, Nat.reduceAdd, Nat.reduceLT, Nat.zero_add, if_true, if_false, Nat.reduceSub, reduceIte, mapL_cellsR, Nat.lt_irrefl, Nat.not_lt_zero, Nat.zero_lt_succ, Nat.lt_add_one]
      iterate 2 refine jo ?_
      refine jDT ?_
      iterate 2 refine jo ?_
      refine je ?_
      refine WS.pret rfl ⟨.inr rfl, _, rfl, ?_⟩
      exact ⟨_, rfl, [0], [some ⟨cellsR (rwI .u8) I, 5, false⟩], .b true, ⟨rfl, rfl, (by simp [jVb, jOb, jMb, mapL_cellsR, okL_cellsR]), rfl⟩, rfl, trivial, by rw [e], rfl⟩
    · have e : cleanB (I.take n) = false := by
        unfold cleanB; rw [Bool.and_eq_false_iff]; right
        exact Bool.eq_false_iff.2 fun h3 => h2 (ha.2 fun x hx => by simpa using List.all_eq_true.1 h3 x hx)
      refine jq ?_
      refine jg ?_
      refine jo ?_
      refine je ?_
      refine jq ?_
      refine jg ?_
      iterate 2 refine jo ?_
      refine jDT ?_
      iterate 2 refine jo ?_
      refine jn ?_
      refine jc [0,1] CW (by simp [jOb]) (by simp [jEb, jOb, jMb, mapL_cellsR, okL_cellsR]) ?_; rintro _ _ ⟨rfl, rfl⟩ -; simp only [jPg, jMb, ll, Nat.reduceAdd, Nat.reduceLT, Nat.zero_add, if_true, if_false, Nat.reduceSub, reduceIte, mapL_cellsR, Nat.lt_irrefl, Nat.not_lt_zero, Nat.zero_lt_succ, Nat.lt_add_one]
      iterate 2 refine jo ?_
      refine jDF ?_
      iterate 2 refine jo ?_
      refine je ?_
      refine WS.pret rfl ⟨.inr rfl, _, rfl, ?_⟩
      exact ⟨_, rfl, [0], [some ⟨cellsR (rwI .u8) I, 5, false⟩], .b false, ⟨rfl, rfl, (by simp [jVb, jOb, jMb, mapL_cellsR, okL_cellsR]), rfl⟩, rfl, trivial, by rw [e], rfl⟩
  · have e : cleanB (I.take n) = false := by
      unfold cleanB; rw [hJ]; simp [h]
    refine jq ?_
    refine jg ?_
    refine jo ?_
    refine je ?_
    refine jq ?_
    refine jg ?_
    iterate 2 refine jo ?_
    refine jDF ?_
    refine jo ?_
    iterate 6 refine jN ?_
    iterate 2 refine jo ?_
    refine je ?_
    refine WS.pret rfl ⟨.inr rfl, _, rfl, ?_⟩
    exact ⟨_, rfl, [0], [some ⟨cellsR (rwI .u8) I, 5, false⟩], .b false, ⟨rfl, rfl, (by simp [jVb, jOb, jMb, mapL_cellsR, okL_cellsR]), rfl⟩, rfl, trivial, by rw [e], rfl⟩
theorem all_take {I : List Int} {i : Nat} {x : Int} (h : I[i]? = some x) : ((I.take (i + 1)).all (· == 255)) = ((I.take i).all (· == 255) && x == 255) := by
  rw [List.take_add_one, h]; simp
theorem rclean_walk (I : List Int) (n c : Nat) (q : Bool) (hb : Byt I) (hn : n ≤ I.length) (hl : I.length ≤ 9223372036854775807) :
    FM Try.prog 17 [.sl (some (0,0)) n c q] [some ⟨cellsR (rwI .u8) I, 5, false⟩] (fun v M' => v = .b (cleanB (I.take n)) ∧ M' = [some ⟨cellsR (rwI .u8) I, 5, false⟩]) := by
  have hJ : (I.take n).length = n := by rw [List.length_take]; omega
  refine FM.pbody (tb := tb) (fn := Try.f17) rfl rfl ?_
  simp only [argS, Nat.reduceAdd, List.length_cons, List.length_nil]
  refine jq ?_
  refine jg ?_
  refine jo ?_
  refine je ?_
  iterate 2 refine jq ?_
  refine jg ?_
  refine jo ?_
  refine je ?_
  refine WS.pblock rfl ?_
  refine WS.ploopI (σ := Nat) (τ := Unit) (fun i => [(0, .sl (some (0,0)) n c q), (3, .i .i64 i)]) (fun _ => [some ⟨cellsR (rwI .u8) I, 5, false⟩]) (fun i => i ≤ n ∧ (I.take i).all (· == 255) = true) (fun i => n - i) (fun _ => [(0, .sl (some (0,0)) n c q)]) (fun _ => [some ⟨cellsR (rwI .u8) I, 5, false⟩]) (fun _ => (I.take n).all (· == 255) = true) 0 [0] 0 rfl ⟨Nat.zero_le _, by simp⟩ (jSb (by simp [jVb, jOb, jMb, mapL_cellsR, okL_cellsR]) (by simp only [jSl, jOb, jMb, Nat.reduceAdd, Nat.reduceLT] <;> exact jClo)) rfl ?_ ?_
  · rintro i ⟨hi, hall⟩
    by_cases h : i < n
    · obtain ⟨x, hx⟩ : ∃ x, I[i]? = some x := ⟨_, List.getElem?_eq_getElem (by omega)⟩
      have ht := all_take hx
      by_cases h2 : x = 255
      · refine WS.pseq rfl ?_
        refine jq ?_
        refine jg ?_
        iterate 3 refine jo ?_
        refine jDT ?_
        refine je ?_
        refine WS.pcondT rfl rfl ?_
        refine WS.pskip rfl ?_
        refine jq ?_
        refine WS.pblock rfl ?_
        refine jq ?_
        refine jg ?_
        iterate 2 refine jo ?_
        refine jI ?_
        refine WS.po (tb := tb) rfl rfl rfl rfl (step_R rfl (evR_load rfl rfl rfl rfl (cellsI_get hx))) ?_
        refine jNF ?_
        refine je ?_
        refine WS.pcondF rfl rfl ?_
        refine WS.pskip rfl ?_
        refine jg ?_
        refine jo ?_
        refine jW ?_
        refine jo ?_
        refine je ?_
        refine WS.nil ?_
        exact ⟨i + 1, ⟨by omega, by rw [ht, hall]; simpa using h2⟩, by omega, (jSn [0] (by simp [jVb, jOb, jMb, mapL_cellsR, okL_cellsR]) (by simp only [jSl, jOb, jMb, Nat.reduceAdd, Nat.reduceLT] <;> exact jClo))⟩
      · have e : cleanB (I.take n) = false := by
          unfold cleanB; rw [Bool.and_eq_false_iff]; right
          exact Bool.eq_false_iff.2 fun h3 => h2 (by
            have := List.all_eq_true.1 h3 x (List.mem_of_getElem? (i := i) (by rw [List.getElem?_take, if_pos h]; exact hx))
            simpa using this)
        iterate 2 refine jq ?_
        refine jg ?_
        iterate 3 refine jo ?_
        refine jDT ?_
        refine je ?_
        refine WS.pcondT rfl rfl ?_
        refine WS.pskip rfl ?_
        refine jq ?_
        refine WS.pblock rfl ?_
        refine jq ?_
        refine jg ?_
        iterate 2 refine jo ?_
        refine jI ?_
        refine WS.po (tb := tb) rfl rfl rfl rfl (step_R rfl (evR_load rfl rfl rfl rfl (cellsI_get hx))) ?_
        refine jNT ?_
        refine je ?_
        refine WS.pcondT rfl rfl ?_
        refine jq ?_
        refine jg ?_
        refine jo ?_
        refine je ?_
        refine WS.pret rfl ⟨.inr rfl, _, rfl, ?_⟩
        exact ⟨_, rfl, by rw [e], rfl⟩
    · obtain rfl : i = n := by omega
      iterate 2 refine jq ?_
      refine jg ?_
      iterate 3 refine jo ?_
      refine jDF ?_
      refine je ?_
      refine WS.pcondF rfl rfl ?_
      refine WS.pout rfl rfl ?_
      exact ⟨rfl, (), hall, (jSn [0] (by simp [jVb, jOb, jMb, mapL_cellsR, okL_cellsR]) (by simp only [jSl, jOb, jMb, Nat.reduceAdd, Nat.reduceLT] <;> exact jClo))⟩
  · rintro _ hall
    have e : cleanB (I.take n) = decide ((n : Int) = 68) := by
      unfold cleanB; rw [hall, hJ, Bool.and_true]
      by_cases h : n = 68
      · subst h; rfl
      · rw [decide_eq_false (by omega)]; simpa using h
    rw [e]
    by_cases h : n = 68
    · subst h
      refine jq ?_
      refine jg ?_
      iterate 2 refine jo ?_
      refine jB true ?_
      refine jo ?_
      refine je ?_
      refine WS.pret rfl ⟨.inr rfl, _, rfl, ?_⟩
      exact ⟨_, rfl, rfl, rfl⟩
    · have e2 : decide ((n : Int) = 68) = false := decide_eq_false (by omega)
      rw [e2]
      refine jq ?_
      refine jg ?_
      iterate 2 refine jo ?_
      refine jDF ?_
      refine jo ?_
      refine je ?_
      refine WS.pret rfl ⟨.inr rfl, _, rfl, ?_⟩
      exact ⟨_, rfl, rfl, rfl⟩
/-- Sector bytes out of a string's. -/
@[irreducible] def padB (s : List Int) (i : Nat) : List Int := s.take i ++ List.replicate (32 - (s.take i).length) 0
theorem padB_len {s : List Int} {i : Nat} (h : i ≤ 32) : (padB s i).length = 32 := by
  unfold padB; simp only [List.length_append, List.length_replicate, List.length_take]; omega
theorem padB_set {s : List Int} {i : Nat} {x : Int} (hx : s[i]? = some x) (h : i < 32) : (padB s i).set i x = padB s (i + 1) := by
  have hi : i < s.length := (List.getElem?_eq_some_iff.1 hx).1
  have l2 : (s.take i).length = i := by rw [List.length_take]; omega
  apply List.ext_getElem?
  intro j
  have l3 : (s.take (i + 1)).length = i + 1 := by rw [List.length_take]; omega
  rw [List.getElem?_set, padB_len (by omega)]
  by_cases e : i = j
  · subst e
    unfold padB
    rw [if_pos rfl, if_pos h, List.getElem?_append_left (by omega), List.getElem?_take, if_pos (by omega), hx]
  · unfold padB
    rw [if_neg e, l2, l3]
    by_cases e2 : j < i
    · rw [List.getElem?_append_left (by omega), List.getElem?_append_left (by omega), List.getElem?_take, List.getElem?_take, if_pos (by omega), if_pos (by omega)]
    · rw [List.getElem?_append_right (by omega), List.getElem?_append_right (by omega), l2, l3, List.getElem?_replicate, List.getElem?_replicate]
      by_cases e3 : j < 32
      · rw [if_pos (by omega), if_pos (by omega)]
      · rw [if_neg (by omega), if_neg (by omega)]
theorem pay_walk (s : List Int) (hb : Byt s) (hl : s.length ≤ 9223372036854775807) :
    FM Try.prog 12 [.s (strOf s)] [] (fun v M' => v = .agg (b32 (padB s 32)) ∧ M' = []) := by
  have e0 : b32 (padB s 0) = [.i .u8 0, .i .u8 0, .i .u8 0, .i .u8 0, .i .u8 0, .i .u8 0, .i .u8 0, .i .u8 0, .i .u8 0, .i .u8 0, .i .u8 0, .i .u8 0, .i .u8 0, .i .u8 0, .i .u8 0, .i .u8 0, .i .u8 0, .i .u8 0, .i .u8 0, .i .u8 0, .i .u8 0, .i .u8 0, .i .u8 0, .i .u8 0, .i .u8 0, .i .u8 0, .i .u8 0, .i .u8 0, .i .u8 0, .i .u8 0, .i .u8 0, .i .u8 0] := by unfold padB; rfl
  have hsl : V.i .i64 ((strOf s).size : Int) = V.i .i64 (s.length : Int) := by rw [strOf_size]
  refine FM.pbodyV (tb := tb) (fn := Try.f12) rfl rfl ?_
  simp only [argS, Nat.reduceAdd, List.length_cons, List.length_nil]
  refine jq ?_
  refine jg ?_
  refine jn ?_
  refine je ?_
  refine jq ?_
  refine jg ?_
  refine jn ?_
  refine je ?_
  iterate 2 refine jq ?_
  refine jg ?_
  refine jo ?_
  refine je ?_
  refine WS.pblock rfl ?_
  refine WS.ploopI (σ := Nat) (τ := Unit) (fun i => [(0, .s (strOf s)), (2, .p (some (0,0))), (3, .p (some (1,0))), (4, .i .i64 i)]) (fun i => [some ⟨b32 (padB s 0), 28, true⟩, some ⟨b32 (padB s i), 28, true⟩]) (fun i => i ≤ 32 ∧ i ≤ s.length) (fun i => 32 - i) (fun _ => [(2, .p (some (0,0))), (3, .p (some (1,0)))]) (fun _ => [some ⟨b32 (padB s 0), 28, true⟩, some ⟨b32 (padB s 32), 28, true⟩]) (fun _ => True) 0 [0,1] 0 rfl ⟨by omega, by omega⟩ (jSb (by simp [jVb, jOb, jMb, mapL_cellsR, okL_cellsR, e0]) (by simp only [jSl, jOb, jMb, Nat.reduceAdd, Nat.reduceLT, e0] <;> exact jClo)) rfl ?_ ?_
  · rintro i ⟨hi, hi2⟩
    by_cases h : i < s.length
    · by_cases h2 : i < 32
      · obtain ⟨x, hx⟩ : ∃ x, s[i]? = some x := ⟨_, List.getElem?_eq_getElem (by omega)⟩
        have hst := b32_set (P := padB s i) (x := x) h2 (padB_len hi)
        rw [padB_set hx h2] at hst
        iterate 2 refine jq ?_
        refine jg ?_
        iterate 2 refine jo ?_
        refine WS.poV (tb := tb) rfl rfl rfl rfl (step_P rfl) hsl ?_
        refine jDT ?_
        iterate 2 refine jo ?_
        refine jDT ?_
        refine jo ?_
        refine je ?_
        refine WS.pcondT rfl rfl ?_
        refine WS.pskip rfl ?_
        refine jq ?_
        refine WS.pblock rfl ?_
        refine jg ?_
        iterate 3 refine jo ?_
        refine WS.po (tb := tb) rfl rfl rfl rfl (step_P (evP_sidx rfl rfl rfl rfl rfl hx (by assumption))) ?_
        refine WS.poP (tb := tb) rfl rfl rfl rfl (step_P (evP_indexA rfl rfl rfl rfl rfl rfl (by omega))) (by simp only [nl, nz, Nat.reduceAdd, Nat.reduceMul, Int.reduceToNat]; exact rfl) ?_
        refine WS.po0 (tb := tb) rfl rfl rfl rfl (step_H rfl rfl (evH_store rfl rfl rfl rfl rfl (Nat.zero_le _) rfl (by simp [vcells]) (by simp only [vcells, List.length_cons, List.length_nil, cellsI_len, cellsB_len, List.length_set, List.length_replicate, List.length_append, List.length_map, List.length_take, List.length_drop, b32_len]; omega))) ?_; rw [upd_mem _ rfl]; simp only [vcells, List.set_cons_zero, List.set_cons_succ, hst]; (try simp only [setL, List.set_cons_zero, List.set_cons_succ])
        refine je ?_
        refine jg ?_
        refine jo ?_
        refine jW ?_
        refine jo ?_
        refine je ?_
        refine WS.nil ?_
        exact ⟨i + 1, ⟨by omega, by omega⟩, by omega, (jSn [0,1] (by simp [jVb, jOb, jMb, mapL_cellsR, okL_cellsR, okL_b32, mapL_b32, hst]) (by simp only [jSl, jOb, jMb, Nat.reduceAdd, Nat.reduceLT, okL_b32, mapL_b32, hst] <;> exact jClo))⟩
      · obtain rfl : i = 32 := by omega
        iterate 2 refine jq ?_
        refine jg ?_
        iterate 2 refine jo ?_
        refine WS.poV (tb := tb) rfl rfl rfl rfl (step_P rfl) hsl ?_
        refine jDT ?_
        iterate 2 refine jo ?_
        refine jB false ?_
        refine jo ?_
        refine je ?_
        refine WS.pcondF rfl rfl ?_
        refine WS.pout rfl rfl ?_
        exact ⟨rfl, (), trivial, (jSn [0,1] (by simp [jVb, jOb, jMb, mapL_cellsR, okL_cellsR, okL_b32, mapL_b32]) (by simp only [jSl, jOb, jMb, Nat.reduceAdd, Nat.reduceLT, okL_b32, mapL_b32] <;> exact jClo))⟩
    · have e : padB s i = padB s 32 := by
        unfold padB; rw [List.take_of_length_le (by omega), List.take_of_length_le (by omega)]
      iterate 2 refine jq ?_
      refine jg ?_
      iterate 2 refine jo ?_
      refine WS.poV (tb := tb) rfl rfl rfl rfl (step_P rfl) hsl ?_
      refine jDF ?_
      refine jo ?_
      iterate 2 refine jN ?_
      refine jo ?_
      refine je ?_
      refine WS.pcondF rfl rfl ?_
      refine WS.pout rfl rfl ?_
      exact ⟨rfl, (), trivial, (jSn [0,1] (by simp [jVb, jOb, jMb, mapL_cellsR, okL_cellsR, okL_b32, mapL_b32, e]) (by simp only [jSl, jOb, jMb, Nat.reduceAdd, Nat.reduceLT, okL_b32, mapL_b32, e] <;> exact jClo))⟩
  · rintro _ -
    have hw : setL (b32 (padB s 0)) 0 (b32 (padB s 32)) = b32 (padB s 32) := setL_whole rfl
    generalize padB s 0 = Z at *
    generalize padB s 32 = Y at *
    refine jq ?_
    refine jg ?_
    refine WS.poA (tb := tb) rfl rfl rfl rfl rfl (by simp only [List.drop_zero, List.drop_succ_cons, List.take_succ_cons, List.take_zero, b32_take]; exact rfl) ?_
    refine WS.po0 (tb := tb) rfl rfl rfl rfl (step_H rfl rfl (evH_store rfl rfl rfl rfl rfl (Nat.zero_le _) rfl (by simp [vcells]) (Nat.le_of_ble_eq_true rfl))) ?_; rw [upd_mem _ rfl]; simp only [vcells, List.set_cons_zero, List.set_cons_succ, hw]; (try simp only [setL, List.set_cons_zero, List.set_cons_succ])
    refine je ?_
    refine WS.pret rfl ⟨.inr rfl, _, (resV1 (a := 2) (T := 28) (z := 32) rfl rfl rfl rfl rfl), ?_⟩
    exact ⟨_, rfl, [], [], .agg (b32 Y), ⟨rfl, rfl, (by simp [jVb, jOb, jMb, mapL_cellsR, okL_cellsR]), rfl⟩, rfl, okL_b32 _ _, rfl, rfl⟩
end Go.Proofs.Ytnogdgdkeojlpaa.Am

