/- Functions of the tree and of the law TreePlays, walked. Conditions: those of each theorem. -/
import Derived.Test.YtpogfelbimcglaaAr2
namespace Go.Proofs.Ytpogfelbimcglaa.Am
open Go.Proofs
set_option maxRecDepth 1000000
set_option maxHeartbeats 4000000
set_option linter.unusedSimpArgs false
set_option linter.unusedVariables false
theorem ar_live_is (ps : List Pl) (fr lv : Int) : FM Try.prog 22 [.p (some (1,0))] (arM ps fr lv) (fun v M' => v = .i .i64 lv ∧ M' = arM ps fr lv) := by
  refine FM.pbody (tb := tb) (fn := Try.f22) rfl rfl ?_
  simp only [argS, Nat.reduceAdd, arM, List.length_cons, List.length_nil]
  refine jq ?_
  refine jg ?_
  refine jo ?_
  refine je ?_
  refine jq ?_
  refine jg ?_
  iterate 2 refine jo ?_
  refine jP ?_
  iterate 2 refine jo ?_
  refine je ?_
  refine WS.pret rfl ⟨.inr rfl, _, rfl, ?_⟩
  exact ⟨_, rfl, rfl, rfl⟩
/-- The free ones, one behind the other. -/
def Chn (ps : List Pl) : Int → List Nat → Prop
  | fr, [] => fr = 0
  | fr, k :: l => fr = k ∧ 0 < k ∧ ∃ p, ps[k]? = some p ∧ Chn ps p.next l
def nums (l : List Nat) : List Int := l.map fun (k : Nat) => (k : Int)
theorem free_walk (ps : List Pl) (fr lv : Int) (free : List Nat) (hc : Chn ps fr free) (hm : ps.length ≤ 600) (hf : free.length ≤ 600) :
  FM Try.prog 24 [.p (some (1,0))] (arM ps fr lv) (fun v M' => (free = [] ∧ v = .sl none 0 0 false ∧ M' = arM ps fr lv) ∨ (free ≠ [] ∧ v = .sl (some (2, 0)) free.length free.length true ∧ M' = arM ps fr lv ++ [some ⟨cellsR (rwI .u32) (nums free), 37, true⟩])) := by
  refine FM.pbodyV (tb := tb) (fn := Try.f24) rfl rfl ?_
  simp only [argS, Nat.reduceAdd, arM, List.length_cons, List.length_nil]
  refine jq ?_
  refine jg ?_
  refine jo ?_
  refine je ?_
  refine jq ?_
  refine jg ?_
  refine jo ?_
  refine je ?_
  iterate 2 refine jq ?_
  refine jg ?_
  iterate 2 refine jo ?_
  refine jP ?_
  iterate 2 refine jo ?_
  refine je ?_
  refine WS.pblock rfl ?_
  refine WS.ploopI (σ := List Nat × Int × List Nat) (τ := Unit) (fun a => [(0, .p (some (1,0))), (4, .i .u32 a.2.1), (3, match a.1 with | [] => .sl none 0 0 false | x :: l => .sl (some (2, 0)) (l.length + 1) (l.length + 1) true)])
    (fun a => [some ⟨cellsR rwPl ps, 64, true⟩, some ⟨[.sl (some (0,0)) ps.length ps.length false, .i .u32 fr, .i .i64 lv], 60, true⟩, match a.1 with | [] => none | x :: l => some ⟨cellsR (rwI .u32) (nums (x :: l)), 37, true⟩])
    (fun a => a.1 ++ a.2.2 = free ∧ Chn ps a.2.1 a.2.2) (fun a => a.2.2.length)
    (fun _ => [(3, match free with | [] => .sl none 0 0 false | x :: l => .sl (some (2, 0)) (l.length + 1) (l.length + 1) true)]) (fun _ => [some ⟨cellsR rwPl ps, 64, true⟩, some ⟨[.sl (some (0,0)) ps.length ps.length false, .i .u32 fr, .i .i64 lv], 60, true⟩, match free with | [] => none | x :: l => some ⟨cellsR (rwI .u32) (nums (x :: l)), 37, true⟩]) (fun _ => True) 0 [0,1,2] ([], fr, free) rfl ⟨rfl, hc⟩ (jSb (by simp [jVb, jOb, jMb, mapL_cellsR, okL_cellsR]) (by simp only [jSl, jOb, jMb, Nat.reduceAdd, Nat.reduceLT] <;> exact jClo)) rfl ?_ ?_
  · rintro ⟨dn, f, rst⟩ ⟨h1, h2⟩
    rcases rst with _ | ⟨k, rst⟩
    · obtain rfl : f = 0 := h2
      obtain rfl : dn = free := by simpa using h1
      rcases dn with _ | ⟨x, l⟩
      · simp only
        iterate 2 refine jq ?_
        refine jg ?_
        refine jo ?_
        refine jB false ?_
        refine je ?_
        refine WS.pcondF rfl rfl ?_
        refine WS.pout rfl rfl ?_
        exact ⟨rfl, (), trivial, (jSn [0,1,2] (by simp [jVb, jOb, jMb, mapL_cellsR, okL_cellsR]) (by simp only [jSl, jOb, jMb, Nat.reduceAdd, Nat.reduceLT] <;> exact jClo))⟩
      · simp only
        iterate 2 refine jq ?_
        refine jg ?_
        refine jo ?_
        refine jB false ?_
        refine je ?_
        refine WS.pcondF rfl rfl ?_
        refine WS.pout rfl rfl ?_
        exact ⟨rfl, (), trivial, (jSn [0,1,2] (by simp [jVb, jOb, jMb, mapL_cellsR, okL_cellsR]) (by simp only [jSl, jOb, jMb, Nat.reduceAdd, Nat.reduceLT] <;> exact jClo))⟩
    · obtain ⟨rfl, h3, p, hp, h4⟩ := h2
      have hk : k < ps.length := (List.getElem?_eq_some_iff.1 hp).1
      rcases dn with _ | ⟨x, l⟩
      · simp only
        iterate 2 refine jq ?_
        refine jg ?_
        refine jo ?_
        refine jNT ?_
        refine je ?_
        refine WS.pcondT rfl rfl ?_
        refine WS.pskip rfl ?_
        refine jq ?_
        refine WS.pblock rfl ?_
        refine jg ?_
        iterate 2 refine jo ?_
        refine jn ?_
        refine WS.po (tb := tb) rfl rfl rfl rfl (step_H rfl rfl (evH_append_nil rfl rfl rfl rfl rfl rfl rfl rfl rfl rfl (by omega) (by omega) (cellsAt_all rfl rfl) (by first | exact rfl | (simp only [Pl_len, vcells, List.length_cons, List.length_nil, cellsI_len, cellsB_len, List.length_set, List.length_replicate, List.length_append, List.length_map, List.length_take, List.length_drop]; omega) | omega) (by omega))) ?_; (try rw [upd_mem _ rfl]); (try rw [new_mem]); (try simp only [List.set_cons_zero, List.set_cons_succ, List.cons_append, List.nil_append, mem_next, List.length_cons, List.length_nil, Nat.zero_add, Nat.reduceAdd, List.drop_zero, vcells, cellsI_app1, cellsB_app1, cellsI_cons, repsI, repsB, Pl_app1, Pl_reps])
        refine jo ?_
        refine je ?_
        refine jg ?_
        iterate 2 refine jo ?_
        refine jP ?_
        iterate 2 refine jo ?_
        refine jI ?_
        refine jP ?_
        refine WS.po (tb := tb) rfl rfl rfl rfl (step_R rfl (evR_load rfl rfl rfl rfl (cellsR_get hp rfl))) ?_
        refine jo ?_
        refine je ?_
        refine WS.nil ?_
        exact ⟨([k], p.next, rst), ⟨by simpa using h1, h4⟩, by simp, (jSn [0,1,4] (by simp [jVb, jOb, jMb, mapL_cellsR, okL_cellsR, nums, cellsI_sing]) (by simp only [jSl, jOb, jMb, Nat.reduceAdd, Nat.reduceLT, nums, cellsI_sing] <;> exact jClo))⟩
      · simp only
        have hl : l.length ≤ 600 := by have := congrArg List.length h1; simp at this; omega
        iterate 2 refine jq ?_
        refine jg ?_
        refine jo ?_
        refine jNT ?_
        refine je ?_
        refine WS.pcondT rfl rfl ?_
        refine WS.pskip rfl ?_
        refine jq ?_
        refine WS.pblock rfl ?_
        refine jg ?_
        iterate 2 refine jo ?_
        refine jn ?_
        refine WS.po (tb := tb) rfl rfl rfl rfl (step_H rfl rfl (evH_append_open rfl rfl rfl rfl rfl rfl rfl rfl rfl (by omega) rfl (Nat.zero_le _) (by omega) (cellsAt_all rfl rfl) (by first | exact rfl | (simp only [Pl_len, vcells, List.length_cons, List.length_nil, cellsI_len, cellsB_len, List.length_set, List.length_replicate, List.length_append, List.length_map, List.length_take, List.length_drop, nums]; omega) | omega) (by first | exact rfl | (simp only [Pl_len, vcells, List.length_cons, List.length_nil, cellsI_len, cellsB_len, List.length_set, List.length_replicate, List.length_append, List.length_map, List.length_take, List.length_drop, nums]; omega) | omega) rfl (by omega))) ?_; (try rw [upd_mem _ rfl]); (try rw [new_mem]); (try simp only [List.set_cons_zero, List.set_cons_succ, List.cons_append, List.nil_append, mem_next, List.length_cons, List.length_nil, Nat.zero_add, Nat.reduceAdd, List.drop_zero, vcells, cellsI_app1, cellsB_app1, cellsI_cons, repsI, repsB, Pl_app1, Pl_reps])
        refine jo ?_
        refine je ?_
        refine jg ?_
        iterate 2 refine jo ?_
        refine jP ?_
        iterate 2 refine jo ?_
        refine jI ?_
        refine jP ?_
        refine WS.po (tb := tb) rfl rfl rfl rfl (step_R rfl (evR_load rfl rfl rfl rfl (cellsR_get hp rfl))) ?_
        refine jo ?_
        refine je ?_
        refine WS.nil ?_
        exact ⟨(x :: (l ++ [k]), p.next, rst), ⟨by simpa using h1, h4⟩, by simp, (jSn [0,1,4] (by simp [jVb, jOb, jMb, mapL_cellsR, okL_cellsR, nums, List.map_append]) (by simp only [jSl, jOb, jMb, Nat.reduceAdd, Nat.reduceLT, nums, List.map_append] <;> exact jClo))⟩
  · rintro _ -
    rcases free with _ | ⟨x, l⟩
    · simp only
      refine jq ?_
      refine jg ?_
      iterate 2 refine jo ?_
      refine je ?_
      refine WS.pret rfl ⟨.inr rfl, _, rfl, ?_⟩
      exact ⟨_, rfl, [0,1], arM ps fr lv, .sl none 0 0 false, ⟨rfl, rfl, (by simp [jVb, jOb, jMb, mapL_cellsR, okL_cellsR, arM]), rfl⟩, rfl, trivial, .inl ⟨by trivial, rfl, rfl⟩⟩
    · simp only
      refine jq ?_
      refine jg ?_
      iterate 2 refine jo ?_
      refine je ?_
      refine WS.pret rfl ⟨.inr rfl, _, rfl, ?_⟩
      exact ⟨_, rfl, [0,1,2], arM ps fr lv ++ [some ⟨cellsR (rwI .u32) (nums (x :: l)), 37, true⟩], .sl (some (2, 0)) (l.length + 1) (l.length + 1) true, ⟨rfl, rfl, (by simp [jVb, jOb, jMb, mapL_cellsR, okL_cellsR, arM]), rfl⟩, rfl, Nat.lt_succ_self _, .inr ⟨by simp, rfl, rfl⟩⟩
end Go.Proofs.Ytpogfelbimcglaa.Am

