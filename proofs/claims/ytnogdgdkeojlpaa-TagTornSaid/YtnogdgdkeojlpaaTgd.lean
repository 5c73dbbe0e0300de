/- TagTorn answers true for any numbers and any string, in every world. Conditions: the string's length fits. -/
import Derived.Test.YtnogdgdkeojlpaaAm5
import Derived.Test.YtnogdgdkeojlpaaTgc
namespace Go.Proofs.Ytnogdgdkeojlpaa.Am
open Go.Proofs
set_option maxRecDepth 1000000
set_option maxHeartbeats 4000000
set_option linter.unusedSimpArgs false
set_option linter.unusedVariables false
theorem bd_torn (k a : Int) (P : List Int) : bdStruct tb 30 [(0, .i .i64 k), (1, .i .u32 a), (7, .agg (b32 P))] = some (.agg (pgV k a 0 0 0 0 0 P)) := by kernel_rfl
theorem torn_main (kd lba : Int) (s : List Int) (cn : Nat) (hs : Byt s) (hsl : s.length ≤ 9223372036854775807) (hlb : u32 lba) (hcn : cn ≤ 17) (hk : okK kd) :
    FM Try.prog 6 [.i .i64 kd, .i .u32 lba, .s (strOf s), .i .i64 cn] [] (fun v _ => v = .b true) := by
  have PW := pay_walk s hs hsl
  have hP := padB_len (s := s) (i := 32) (by omega)
  have hPB := pad_byt hs 32
  generalize padB s 32 = P at *
  have E := enc_ok kd lba 0 0 0 0 0 P hk hP hPB
  obtain ⟨E1, E2, E3⟩ := enc_dec kd lba 0 0 0 0 0 P hk hlb ⟨by omega, by omega⟩ ⟨by omega, by omega⟩ ⟨by omega, by omega⟩ ⟨by omega, by omega⟩ ⟨by omega, by omega⟩ hP hPB
  have hBl := encO_len kd lba 0 0 0 0 0 P hP
  have hBb := encO_byt kd lba 0 0 0 0 0 P hP hPB
  have hB0 : (encO kd [lba, 0, 0, 0, 0, 0] P).getD 0 0 ≤ 3 := by
    have : ((encO kd [lba, 0, 0, 0, 0, 0] P).getD 0 0) = kd := by
      have := congrArg (fun l => l[0]?) E2
      simp only [pgJ, pgV, List.getElem?_cons_zero, Option.some.injEq, V.i.injEq, true_and] at this
      exact this
    rw [this]; rcases hk with rfl | rfl | rfl <;> omega
  simp only [cE] at E
  generalize encO kd [lba, 0, 0, 0, 0, 0] P = B at *
  have AW := awake_fm
  obtain ⟨Y, hY⟩ : ∃ Y : List Int, Y = List.replicate (68 - 4 * cn) 255 := ⟨_, rfl⟩
  have hYl : Y.length = 68 - 4 * cn := by rw [hY, List.length_replicate]
  have hYg : ∀ j, j < 68 - 4 * cn → Y[j]? = some 255 := fun j h => by rw [hY, List.getElem?_replicate, if_pos h]
  have hTY : tornL B cn = over2 B (4 * cn) Y := by unfold tornL; rw [hY]
  clear hY
  refine FM.pbody (tb := tb) (fn := Try.f6) rfl rfl ?_
  simp only [argS, Nat.reduceAdd, List.length_cons, List.length_nil]
  refine jq ?_
  refine jg ?_
  refine jo ?_
  refine je ?_
  iterate 2 refine jq ?_
  refine jg ?_
  refine jc [] AW (by simp [jOb, okL_b32, mapL_b32, okL_pgV]) (by simp [jEb, jOb, jMb, mapL_cellsR, okL_cellsR, okL_b32, mapL_b32, okL_pgV]) ?_; rintro _ _ ⟨rfl, rfl⟩ -; simp only [jPg, jMb, ll, Nat.reduceAdd, Nat.reduceLT, Nat.zero_add, if_true, if_false, Nat.reduceSub, reduceIte, mapL_cellsR, Nat.lt_irrefl, Nat.not_lt_zero, Nat.zero_lt_succ, Nat.lt_add_one, okL_b32, mapL_b32, okL_pgV]
  refine jB false ?_
  refine je ?_
  refine WS.pcondF rfl rfl ?_
  refine WS.pskip rfl ?_
  iterate 2 refine jq ?_
  refine jg ?_
  refine jo ?_
  refine jB false ?_
  iterate 2 refine jo ?_
  refine jDF ?_
  refine jo ?_
  refine je ?_
  refine WS.pcondF rfl rfl ?_
  refine WS.pskip rfl ?_
  refine jq ?_
  refine jg ?_
  iterate 3 refine jo ?_
  refine jc [] PW (by simp [jOb, okL_b32, mapL_b32, okL_pgV]) (by simp [jEb, jOb, jMb, mapL_cellsR, okL_cellsR, okL_b32, mapL_b32, okL_pgV]) ?_; rintro _ _ ⟨rfl, rfl⟩ -; simp only [jPg, jMb, ll, Nat.reduceAdd, Nat.reduceLT, Nat.zero_add, if_true, if_false, Nat.reduceSub, reduceIte, mapL_cellsR, Nat.lt_irrefl, Nat.not_lt_zero, Nat.zero_lt_succ, Nat.lt_add_one, okL_b32, mapL_b32, okL_pgV]
  refine WS.po (tb := tb) rfl rfl rfl rfl (step_P (evP_build rfl rfl (bd_torn _ _ _))) ?_
  refine jc [] E (by simp [jOb, okL_b32, mapL_b32, okL_pgV]) (by simp [jEb, jOb, jMb, mapL_cellsR, okL_cellsR, okL_b32, mapL_b32, okL_pgV]) ?_; rintro _ _ ⟨rfl, rfl⟩ -; simp only [jPg, jMb, ll, Nat.reduceAdd, Nat.reduceLT, Nat.zero_add, if_true, if_false, Nat.reduceSub, reduceIte, mapL_cellsR, Nat.lt_irrefl, Nat.not_lt_zero, Nat.zero_lt_succ, Nat.lt_add_one, okL_b32, mapL_b32, okL_pgV]
  iterate 5 refine jo ?_
  refine je ?_
  iterate 2 refine jq ?_
  refine jg ?_
  refine jo ?_
  refine jB false ?_
  refine je ?_
  refine WS.pcondF rfl rfl ?_
  refine WS.pskip rfl ?_
  iterate 2 refine jq ?_
  refine jg ?_
  refine jo ?_
  refine jW ?_
  refine jo ?_
  refine je ?_
  refine WS.pblock rfl ?_
  refine WS.ploopI (σ := Nat) (τ := Unit) (fun j => [(1, .i .u32 lba), (2, .s (strOf s)), (3, .i .i64 cn), (9, .sl (some (0,0)) 68 68 false), (11, .i .i64 ((4 * cn + j : Nat) : Int))]) (fun j => [some ⟨cellsR (rwI .u8) (over2 B (4 * cn) (Y.take j)), 5, true⟩]) (fun j => j ≤ 68 - 4 * cn) (fun j => 68 - 4 * cn - j) (fun _ => [(1, .i .u32 lba), (2, .s (strOf s)), (3, .i .i64 cn), (9, .sl (some (0,0)) 68 68 false)]) (fun _ => [some ⟨cellsR (rwI .u8) (tornL B cn), 5, true⟩]) (fun _ => True) 0 [0] 0 rfl (Nat.zero_le _) (jSb (by simp [jVb, jOb, jMb, mapL_cellsR, okL_cellsR, over2, List.take_zero, List.append_nil, List.length_nil, Nat.add_zero, List.take_append_drop]) (by simp only [jSl, jOb, jMb, Nat.reduceAdd, Nat.reduceLT, over2, List.take_zero, List.append_nil, List.length_nil, Nat.add_zero, List.take_append_drop] <;> exact jClo)) rfl ?_ ?_
  · intro j hj
    by_cases h : j < 68 - 4 * cn
    · have hst2 := (over2_step (xs := B) (o := 4 * cn) (hYg j h) (by omega)).symm
      have hlen : (over2 B (4 * cn) (Y.take j)).length = 68 := by
        rw [over2_length (by rw [List.length_take]; omega)]; exact hBl
      generalize over2 B (4 * cn) (Y.take j) = X at *
      have hst := cellsI_set (k := .u8) (xs := X) (x := 255) (i := 4 * cn + j) (by omega)
      have hlt : 4 * cn + j < 68 := by omega
      iterate 2 refine jq ?_
      refine jg ?_
      iterate 3 refine jo ?_
      refine jDT ?_
      refine je ?_
      refine WS.pcondT rfl rfl ?_
      refine WS.pskip rfl ?_
      refine jq ?_
      refine WS.pblock rfl ?_
      refine jg ?_
      iterate 2 refine jo ?_
      refine jI ?_
      refine WS.po0 (tb := tb) rfl rfl rfl rfl (step_H rfl rfl (evH_store rfl rfl rfl rfl rfl (Nat.zero_le _) rfl (by simp [vcells]) (by simp only [vcells, List.length_cons, List.length_nil, cellsI_len, cellsB_len, List.length_set, List.length_replicate, List.length_append, List.length_map, List.length_take, List.length_drop, hlen]; omega))) ?_; rw [upd_mem _ rfl]; simp only [vcells, List.set_cons_zero, List.set_cons_succ, hst]; (try simp only [setL, List.set_cons_zero, List.set_cons_succ])
      refine je ?_
      refine jg ?_
      refine jo ?_
      refine jW ?_
      refine jo ?_
      refine je ?_
      refine WS.nil ?_
      exact ⟨j + 1, by omega, by omega, (jSn [0] (by simp [jVb, jOb, jMb, mapL_cellsR, okL_cellsR, hst2]) (by simp only [jSl, jOb, jMb, Nat.reduceAdd, Nat.reduceLT, hst2] <;> exact jClo))⟩
    · obtain rfl : j = 68 - 4 * cn := by omega
      have he : over2 B (4 * cn) (Y.take (68 - 4 * cn)) = tornL B cn := by rw [hTY, List.take_of_length_le (by omega)]
      iterate 2 refine jq ?_
      refine jg ?_
      iterate 3 refine jo ?_
      refine jDF ?_
      refine je ?_
      refine WS.pcondF rfl rfl ?_
      refine WS.pout rfl rfl ?_
      exact ⟨rfl, (), trivial, (jSn [0] (by simp [jVb, jOb, jMb, mapL_cellsR, okL_cellsR, he]) (by simp only [jSl, jOb, jMb, Nat.reduceAdd, Nat.reduceLT, he] <;> exact jClo))⟩
  · rintro _ -
    have hTl := torn_len hBl hcn
    have hTb := torn_byt (cn := cn) hBb
    have CL := clnW hTl hTb
    by_cases c0 : cn = 0
    · subst c0
      obtain ⟨d1, d2⟩ := torn_0 hBl
      have D := decE hTl hTb d1 (by omega)
      rw [d2] at CL
      simp only [pgZ, pgV] at D
      refine jq ?_
      refine jg ?_
      refine jo ?_
      refine jc [0] D (by simp [jOb, okL_b32, mapL_b32]) (by simp [jEb, jOb, jMb, mapL_cellsR, okL_cellsR, okL_b32, mapL_b32]) ?_; rintro _ _ ⟨rfl, rfl⟩ -; simp only [jPg, jMb, ll, Nat.reduceAdd, Nat.reduceLT, Nat.zero_add, if_true, if_false, Nat.reduceSub, reduceIte, mapL_cellsR, Nat.lt_irrefl, Nat.not_lt_zero, Nat.zero_lt_succ, Nat.lt_add_one, okL_b32, mapL_b32]
      iterate 3 refine jo ?_
      refine jn ?_
      refine WS.po0 (tb := tb) rfl rfl rfl rfl (step_H rfl rfl (evH_store rfl rfl rfl rfl rfl (Nat.zero_le _) rfl (by simp [vcells]) (Nat.le_of_ble_eq_true rfl))) ?_; rw [upd_mem _ rfl]; simp only [vcells, List.set_cons_zero, List.set_cons_succ, (pg_res 0 0 0 0 0 0 0 (List.replicate 32 0)), okL_b32, mapL_b32]; (try simp only [setL, List.set_cons_zero, List.set_cons_succ])
      refine jo ?_
      refine je ?_
      iterate 2 refine jq ?_
      refine jg ?_
      refine jo ?_
      refine je ?_
      refine WS.pblock rfl ?_
      refine jq ?_
      refine jg ?_
      refine jB true ?_
      refine jo ?_
      refine je ?_
      refine WS.pcondT rfl rfl ?_
      refine jq ?_
      refine jg ?_
      refine jo ?_
      refine jB true ?_
      iterate 2 refine jo ?_
      refine jc [0] CL (by simp [jOb, okL_b32, mapL_b32]) (by simp [jEb, jOb, jMb, mapL_cellsR, okL_cellsR, okL_b32, mapL_b32]) ?_; rintro _ _ ⟨rfl, rfl⟩ -; simp only [jPg, jMb, ll, Nat.reduceAdd, Nat.reduceLT, Nat.zero_add, if_true, if_false, Nat.reduceSub, reduceIte, mapL_cellsR, Nat.lt_irrefl, Nat.not_lt_zero, Nat.zero_lt_succ, Nat.lt_add_one, okL_b32, mapL_b32]
      iterate 2 refine jo ?_
      refine je ?_
      refine WS.pret rfl ⟨.inr rfl, _, rfl, ?_⟩
      exact ⟨_, rfl, rfl⟩
    · by_cases c17 : cn = 17
      · subst c17
        rw [torn_17 hBl] at *
        clear CL
        have D := decK hTl hTb E1 E2
        simp only [pgV] at D
        have hr := e32_refl P
        refine jq ?_
        refine jg ?_
        refine jo ?_
        refine jc [0] D (by simp [jOb, okL_b32, mapL_b32]) (by simp [jEb, jOb, jMb, mapL_cellsR, okL_cellsR, okL_b32, mapL_b32]) ?_; rintro _ _ ⟨rfl, rfl⟩ -; simp only [jPg, jMb, ll, Nat.reduceAdd, Nat.reduceLT, Nat.zero_add, if_true, if_false, Nat.reduceSub, reduceIte, mapL_cellsR, Nat.lt_irrefl, Nat.not_lt_zero, Nat.zero_lt_succ, Nat.lt_add_one, okL_b32, mapL_b32]
        iterate 3 refine jo ?_
        refine jn ?_
        refine WS.po0 (tb := tb) rfl rfl rfl rfl (step_H rfl rfl (evH_store rfl rfl rfl rfl rfl (Nat.zero_le _) rfl (by simp [vcells]) (Nat.le_of_ble_eq_true rfl))) ?_; rw [upd_mem _ rfl]; simp only [vcells, List.set_cons_zero, List.set_cons_succ, (pg_res kd lba 0 0 0 0 0 P), okL_b32, mapL_b32]; (try simp only [setL, List.set_cons_zero, List.set_cons_succ])
        refine jo ?_
        refine je ?_
        iterate 2 refine jq ?_
        refine jg ?_
        refine jo ?_
        refine je ?_
        refine WS.pblock rfl ?_
        refine jq ?_
        refine jg ?_
        refine jB false ?_
        refine jo ?_
        refine je ?_
        refine WS.pcondF rfl rfl ?_
        refine jq ?_
        refine jg ?_
        refine jB true ?_
        refine jo ?_
        refine je ?_
        refine WS.pcondT rfl rfl ?_
        refine jq ?_
        refine WS.pdrawX (tb := tb) (by kernel_rfl) rfl (by kernel_rfl) ?_; (try refine WZ.keep (l := 0) rfl ?_); (try refine WZ.keep (l := 1) rfl ?_)
        refine WZ.p (tb := tb) rfl rfl rfl rfl rfl ?_
        refine WZ.pB (tb := tb) true rfl rfl rfl rfl rfl rfl ?_
        refine WZ.p (tb := tb) rfl rfl rfl rfl rfl ?_
        refine WZ.pP (tb := tb) rfl rfl rfl rfl rfl (by simp only [nl, nz, Nat.reduceAdd, Nat.reduceMul, Int.reduceToNat]; exact rfl) ?_
        refine WZ.sL (tb := tb) rfl rfl rfl rfl rfl rfl rfl rfl rfl rfl ?_
        refine WZ.p (tb := tb) rfl rfl rfl rfl rfl ?_
        refine WZ.pDT (tb := tb) rfl rfl rfl rfl rfl (by omega) ?_
        refine WZ.p (tb := tb) rfl rfl rfl rfl rfl ?_
        refine WZ.p (tb := tb) rfl rfl rfl rfl rfl ?_
        refine WZ.pP (tb := tb) rfl rfl rfl rfl rfl (by simp only [nl, nz, Nat.reduceAdd, Nat.reduceMul, Int.reduceToNat]; exact rfl) ?_
        refine WZ.sLA (tb := tb) rfl rfl rfl rfl rfl rfl rfl rfl rfl rfl rfl rfl (by simp only [List.drop_zero, List.drop_succ_cons, List.take_succ_cons, List.take_zero, b32_take]; exact rfl) ?_
        refine WZ.p (tb := tb) rfl rfl rfl rfl rfl ?_
        refine WZ.callM (tb := tb) [] PW rfl rfl rfl rfl rfl rfl rfl rfl (by (try simp only [mapL, mapV, ll]) <;> exact rfl) (by simp [okL, okV, okL_b32, mapL_b32]; fail_if_success exfalso) rfl (by simp [embP, okL, okV, mapL, mapV, mem_next, mem_get, mem_ro, mapL_cellsR, okL_cellsR, okL_b32, mapL_b32]; fail_if_success exfalso) rfl rfl rfl (by repeat (first | exact trivial | refine ⟨rfl, ?_⟩)) ?_; simp only [jPg, jMb, ll, Nat.reduceAdd, Nat.reduceLT, Nat.zero_add, if_true, if_false, Nat.reduceSub, reduceIte, mapL_cellsR, Nat.lt_irrefl, Nat.not_lt_zero, Nat.zero_lt_succ, Nat.lt_add_one, okL_b32, mapL_b32]
        refine WZ.pB (tb := tb) true rfl rfl rfl rfl (evP_eql rfl rfl rfl (by kernel_rfl) (by kernel_rfl)) (by rw [A32_eq]; exact d_t (by omega)) ?_
        refine WZ.p (tb := tb) rfl rfl rfl rfl rfl ?_
        refine WZ.p (tb := tb) rfl rfl rfl rfl rfl ?_
        refine WZ.fin rfl (by kernel_rfl) (by repeat (first | exact trivial | refine ⟨rfl, ?_⟩)) ?_
        refine WS.pret rfl ⟨.inr rfl, _, rfl, ?_⟩
        exact ⟨_, rfl, rfl⟩
      · obtain ⟨d1, d2⟩ := torn_mid hBl (cn := cn) (by omega) (by omega) hB0
        have D := decE hTl hTb d1 (by omega)
        rw [d2] at CL
        simp only [pgZ, pgV] at D
        refine jq ?_
        refine jg ?_
        refine jo ?_
        refine jc [0] D (by simp [jOb, okL_b32, mapL_b32]) (by simp [jEb, jOb, jMb, mapL_cellsR, okL_cellsR, okL_b32, mapL_b32]) ?_; rintro _ _ ⟨rfl, rfl⟩ -; simp only [jPg, jMb, ll, Nat.reduceAdd, Nat.reduceLT, Nat.zero_add, if_true, if_false, Nat.reduceSub, reduceIte, mapL_cellsR, Nat.lt_irrefl, Nat.not_lt_zero, Nat.zero_lt_succ, Nat.lt_add_one, okL_b32, mapL_b32]
        iterate 3 refine jo ?_
        refine jn ?_
        refine WS.po0 (tb := tb) rfl rfl rfl rfl (step_H rfl rfl (evH_store rfl rfl rfl rfl rfl (Nat.zero_le _) rfl (by simp [vcells]) (Nat.le_of_ble_eq_true rfl))) ?_; rw [upd_mem _ rfl]; simp only [vcells, List.set_cons_zero, List.set_cons_succ, (pg_res 0 0 0 0 0 0 0 (List.replicate 32 0)), okL_b32, mapL_b32]; (try simp only [setL, List.set_cons_zero, List.set_cons_succ])
        refine jo ?_
        refine je ?_
        iterate 2 refine jq ?_
        refine jg ?_
        refine jo ?_
        refine je ?_
        refine WS.pblock rfl ?_
        refine jq ?_
        refine jg ?_
        refine jDF ?_
        refine jo ?_
        refine je ?_
        refine WS.pcondF rfl rfl ?_
        refine jq ?_
        refine jg ?_
        refine jDF ?_
        refine jo ?_
        refine je ?_
        refine WS.pcondF rfl rfl ?_
        refine WS.pskip rfl ?_
        refine jq ?_
        refine jg ?_
        refine jo ?_
        refine jB true ?_
        iterate 2 refine jo ?_
        refine jc [0] CL (by simp [jOb, okL_b32, mapL_b32]) (by simp [jEb, jOb, jMb, mapL_cellsR, okL_cellsR, okL_b32, mapL_b32]) ?_; rintro _ _ ⟨rfl, rfl⟩ -; simp only [jPg, jMb, ll, Nat.reduceAdd, Nat.reduceLT, Nat.zero_add, if_true, if_false, Nat.reduceSub, reduceIte, mapL_cellsR, Nat.lt_irrefl, Nat.not_lt_zero, Nat.zero_lt_succ, Nat.lt_add_one, okL_b32, mapL_b32]
        refine jB true ?_
        iterate 2 refine jo ?_
        refine je ?_
        refine WS.pret rfl ⟨.inr rfl, _, rfl, ?_⟩
        exact ⟨_, rfl, rfl⟩
theorem torn_bad (kd lba ch : Int) (s : List Int) (hs : Byt s) (hsl : s.length ≤ 9223372036854775807) (hk : ¬ okK kd) :
    FM Try.prog 6 [.i .i64 kd, .i .u32 lba, .s (strOf s), .i .i64 ch] [] (fun v _ => v = .b true) := by
  have PW := pay_walk s hs hsl
  generalize padB s 32 = P at *
  have E := enc_bad kd lba 0 0 0 0 0 P hk
  have AW := awake_fm
  have h1 : ¬ kd = 1 := fun e => hk (.inl e)
  have h2 : ¬ kd = 2 := fun e => hk (.inr (.inl e))
  have h3 : ¬ kd = 3 := fun e => hk (.inr (.inr e))
  refine FM.pbody (tb := tb) (fn := Try.f6) rfl rfl ?_
  simp only [argS, Nat.reduceAdd, List.length_cons, List.length_nil]
  by_cases hc : 0 ≤ ch ∧ ch ≤ 17
  · by_cases h4 : kd < 1
    · refine WS.pseq rfl ?_
      refine jg ?_
      refine jo ?_
      refine je ?_
      iterate 2 refine jq ?_
      refine jg ?_
      refine jc [] AW (by simp [jOb, okL_b32, mapL_b32, okL_pgV]) (by simp [jEb, jOb, jMb, mapL_cellsR, okL_cellsR, okL_b32, mapL_b32, okL_pgV]) ?_; rintro _ _ ⟨rfl, rfl⟩ -; simp only [jPg, jMb, ll, Nat.reduceAdd, Nat.reduceLT, Nat.zero_add, if_true, if_false, Nat.reduceSub, reduceIte, mapL_cellsR, Nat.lt_irrefl, Nat.not_lt_zero, Nat.zero_lt_succ, Nat.lt_add_one, okL_b32, mapL_b32, okL_pgV]
      refine jB false ?_
      refine je ?_
      refine WS.pcondF rfl rfl ?_
      refine WS.pskip rfl ?_
      iterate 2 refine jq ?_
      refine jg ?_
      refine jo ?_
      refine jDF ?_
      iterate 2 refine jo ?_
      refine jDF ?_
      refine jo ?_
      refine je ?_
      refine WS.pcondF rfl rfl ?_
      refine WS.pskip rfl ?_
      refine jq ?_
      refine jg ?_
      iterate 3 refine jo ?_
      refine jc [] PW (by simp [jOb, okL_b32, mapL_b32, okL_pgV]) (by simp [jEb, jOb, jMb, mapL_cellsR, okL_cellsR, okL_b32, mapL_b32, okL_pgV]) ?_; rintro _ _ ⟨rfl, rfl⟩ -; simp only [jPg, jMb, ll, Nat.reduceAdd, Nat.reduceLT, Nat.zero_add, if_true, if_false, Nat.reduceSub, reduceIte, mapL_cellsR, Nat.lt_irrefl, Nat.not_lt_zero, Nat.zero_lt_succ, Nat.lt_add_one, okL_b32, mapL_b32, okL_pgV]
      refine WS.po (tb := tb) rfl rfl rfl rfl (step_P (evP_build rfl rfl (bd_torn _ _ _))) ?_
      refine jc [] E (by simp [jOb, okL_b32, mapL_b32, okL_pgV]) (by simp [jEb, jOb, jMb, mapL_cellsR, okL_cellsR, okL_b32, mapL_b32, okL_pgV]) ?_; rintro _ _ ⟨rfl, rfl⟩ -; simp only [jPg, jMb, ll, Nat.reduceAdd, Nat.reduceLT, Nat.zero_add, if_true, if_false, Nat.reduceSub, reduceIte, mapL_cellsR, Nat.lt_irrefl, Nat.not_lt_zero, Nat.zero_lt_succ, Nat.lt_add_one, okL_b32, mapL_b32, okL_pgV]
      iterate 5 refine jo ?_
      refine je ?_
      iterate 2 refine jq ?_
      refine jg ?_
      refine jo ?_
      refine jB true ?_
      refine je ?_
      refine WS.pcondT rfl rfl ?_
      refine jq ?_
      refine jg ?_
      refine jo ?_
      refine jDT ?_
      refine jo ?_
      iterate 2 refine jN ?_
      iterate 2 refine jo ?_
      refine je ?_
      refine WS.pret rfl ⟨.inr rfl, _, rfl, ?_⟩
      exact ⟨_, rfl, rfl⟩
    · have h5 : kd > 3 := by omega
      refine jq ?_
      refine jg ?_
      refine jo ?_
      refine je ?_
      iterate 2 refine jq ?_
      refine jg ?_
      refine jc [] AW (by simp [jOb, okL_b32, mapL_b32, okL_pgV]) (by simp [jEb, jOb, jMb, mapL_cellsR, okL_cellsR, okL_b32, mapL_b32, okL_pgV]) ?_; rintro _ _ ⟨rfl, rfl⟩ -; simp only [jPg, jMb, ll, Nat.reduceAdd, Nat.reduceLT, Nat.zero_add, if_true, if_false, Nat.reduceSub, reduceIte, mapL_cellsR, Nat.lt_irrefl, Nat.not_lt_zero, Nat.zero_lt_succ, Nat.lt_add_one, okL_b32, mapL_b32, okL_pgV]
      refine jB false ?_
      refine je ?_
      refine WS.pcondF rfl rfl ?_
      refine WS.pskip rfl ?_
      iterate 2 refine jq ?_
      refine jg ?_
      refine jo ?_
      refine jDF ?_
      iterate 2 refine jo ?_
      refine jDF ?_
      refine jo ?_
      refine je ?_
      refine WS.pcondF rfl rfl ?_
      refine WS.pskip rfl ?_
      refine jq ?_
      refine jg ?_
      iterate 3 refine jo ?_
      refine jc [] PW (by simp [jOb, okL_b32, mapL_b32, okL_pgV]) (by simp [jEb, jOb, jMb, mapL_cellsR, okL_cellsR, okL_b32, mapL_b32, okL_pgV]) ?_; rintro _ _ ⟨rfl, rfl⟩ -; simp only [jPg, jMb, ll, Nat.reduceAdd, Nat.reduceLT, Nat.zero_add, if_true, if_false, Nat.reduceSub, reduceIte, mapL_cellsR, Nat.lt_irrefl, Nat.not_lt_zero, Nat.zero_lt_succ, Nat.lt_add_one, okL_b32, mapL_b32, okL_pgV]
      refine WS.po (tb := tb) rfl rfl rfl rfl (step_P (evP_build rfl rfl (bd_torn _ _ _))) ?_
      refine jc [] E (by simp [jOb, okL_b32, mapL_b32, okL_pgV]) (by simp [jEb, jOb, jMb, mapL_cellsR, okL_cellsR, okL_b32, mapL_b32, okL_pgV]) ?_; rintro _ _ ⟨rfl, rfl⟩ -; simp only [jPg, jMb, ll, Nat.reduceAdd, Nat.reduceLT, Nat.zero_add, if_true, if_false, Nat.reduceSub, reduceIte, mapL_cellsR, Nat.lt_irrefl, Nat.not_lt_zero, Nat.zero_lt_succ, Nat.lt_add_one, okL_b32, mapL_b32, okL_pgV]
      iterate 5 refine jo ?_
      refine je ?_
      iterate 2 refine jq ?_
      refine jg ?_
      refine jo ?_
      refine jB true ?_
      refine je ?_
      refine WS.pcondT rfl rfl ?_
      refine jq ?_
      refine jg ?_
      refine jo ?_
      refine jDF ?_
      iterate 2 refine jo ?_
      refine jDT ?_
      iterate 2 refine jo ?_
      refine je ?_
      refine WS.pret rfl ⟨.inr rfl, _, rfl, ?_⟩
      exact ⟨_, rfl, rfl⟩
  · focus
      refine jq ?_
      refine jg ?_
      refine jo ?_
      refine je ?_
      iterate 2 refine jq ?_
      refine jg ?_
      refine jc [] AW (by simp [jOb]) (by simp [jEb, jOb, jMb, mapL_cellsR, okL_cellsR]) ?_; rintro _ _ ⟨rfl, rfl⟩ -; simp only [jPg, jMb, ll, Nat.reduceAdd, Nat.reduceLT, Nat.zero_add, if_true, if_false, Nat.reduceSub, reduceIte, mapL_cellsR, Nat.lt_irrefl, Nat.not_lt_zero, Nat.zero_lt_succ, Nat.lt_add_one]
      refine jB false ?_
      refine je ?_
      refine WS.pcondF rfl rfl ?_
      refine WS.pskip rfl ?_
      iterate 2 refine jq ?_
      refine jg ?_
      refine jo ?_
      refine WS.poDS (tb := tb) rfl rfl rfl rfl rfl (fun hb__ => ?_) (fun hb__ => ?_)
      refine jo ?_
      iterate 2 refine jN ?_
      refine jo ?_
      refine je ?_
      refine WS.pcondT rfl rfl ?_
      refine jq ?_
      refine jg ?_
      refine jo ?_
      refine je ?_
      refine WS.pret rfl ⟨.inr rfl, _, rfl, ?_⟩
      rotate_left
      iterate 2 refine jo ?_
      refine jDT ?_
      refine jo ?_
      refine je ?_
      refine WS.pcondT rfl rfl ?_
      refine jq ?_
      refine jg ?_
      refine jo ?_
      refine je ?_
      refine WS.pret rfl ⟨.inr rfl, _, rfl, ?_⟩
      rotate_left
    all_goals exact ⟨_, rfl, rfl⟩
theorem torn_far (kd lba ch : Int) (s : List Int) (hc : ch < 0 ∨ 17 < ch) :
    FM Try.prog 6 [.i .i64 kd, .i .u32 lba, .s (strOf s), .i .i64 ch] [] (fun v _ => v = .b true) := by
  have AW := awake_fm
  refine FM.pbody (tb := tb) (fn := Try.f6) rfl rfl ?_
  simp only [argS, Nat.reduceAdd, List.length_cons, List.length_nil]
  focus
    refine jq ?_
    refine jg ?_
    refine jo ?_
    refine je ?_
    iterate 2 refine jq ?_
    refine jg ?_
    refine jc [] AW (by simp [jOb]) (by simp [jEb, jOb, jMb, mapL_cellsR, okL_cellsR]) ?_; rintro _ _ ⟨rfl, rfl⟩ -; simp only [jPg, jMb, ll, Nat.reduceAdd, Nat.reduceLT, Nat.zero_add, if_true, if_false, Nat.reduceSub, reduceIte, mapL_cellsR, Nat.lt_irrefl, Nat.not_lt_zero, Nat.zero_lt_succ, Nat.lt_add_one]
    refine jB false ?_
    refine je ?_
    refine WS.pcondF rfl rfl ?_
    refine WS.pskip rfl ?_
    iterate 2 refine jq ?_
    refine jg ?_
    refine jo ?_
    refine WS.poDS (tb := tb) rfl rfl rfl rfl rfl (fun hb__ => ?_) (fun hb__ => ?_)
    refine jo ?_
    iterate 2 refine jN ?_
    refine jo ?_
    refine je ?_
    refine WS.pcondT rfl rfl ?_
    refine jq ?_
    refine jg ?_
    refine jo ?_
    refine je ?_
    refine WS.pret rfl ⟨.inr rfl, _, rfl, ?_⟩
    rotate_left
    iterate 2 refine jo ?_
    refine jDT ?_
    refine jo ?_
    refine je ?_
    refine WS.pcondT rfl rfl ?_
    refine jq ?_
    refine jg ?_
    refine jo ?_
    refine je ?_
    refine WS.pret rfl ⟨.inr rfl, _, rfl, ?_⟩
    rotate_left
  all_goals exact ⟨_, rfl, rfl⟩
theorem torn_calls (kd lba : Int) (b : ByteArray) (ch : Int) (W : World) (_ : (Lit.int .i64 kd).wf = true) (hl : (Lit.int .u32 lba).wf = true) (hb : b.size ≤ maxLen) (_ : (Lit.int .i64 ch).wf = true) :
    Calls Try.prog 6 #[.int .i64 kd, .int .u32 lba, .string b, .int .i64 ch] W (fun e w' => e = .returned (.bool true) ∧ Go.RowKit.Below W.heap.size W w') := by
  obtain ⟨s, hs, rfl⟩ := strOf_all b
  rw [strOf_size] at hb
  have hsl : s.length ≤ 9223372036854775807 := Nat.le_trans hb (by decide)
  have hlb : u32 lba := by
    simp only [Lit.wf, IntKind.min, IntKind.max, IntKind.signed, IntKind.bits, Bool.and_eq_true, decide_eq_true_eq, if_true, Bool.false_eq_true, if_false] at hl
    exact ⟨by omega, by omega⟩
  have key : FM Try.prog 6 [.i .i64 kd, .i .u32 lba, .s (strOf s), .i .i64 ch] [] (fun v _ => v = .b true) := by
    by_cases hc : ch < 0 ∨ 17 < ch
    · exact torn_far kd lba ch s hc
    · by_cases hk : okK kd
      · obtain ⟨cn, rfl⟩ : ∃ n : Nat, ch = n := ⟨ch.toNat, by omega⟩
        exact torn_main kd lba s cn hs hsl hlb (by omega) hk
      · exact torn_bad kd lba ch s hs hsl hk
  have := FM.topR [] key ⟨trivial, trivial, trivial, trivial, trivial⟩ W (fun x hx => by cases hx)
  exact this
end Go.Proofs.Ytnogdgdkeojlpaa.Am

