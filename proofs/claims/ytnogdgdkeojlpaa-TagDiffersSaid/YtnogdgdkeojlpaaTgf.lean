/- TagDiffers answers true for any numbers and strings, in every world. Conditions: the numbers lie in memory. -/
import Derived.Test.YtnogdgdkeojlpaaAm5
import Derived.Test.YtnogdgdkeojlpaaTge
namespace Go.Proofs.Ytnogdgdkeojlpaa.Am
open Go.Proofs
set_option maxRecDepth 1000000
set_option maxHeartbeats 4000000
set_option linter.unusedSimpArgs false
set_option linter.unusedVariables false
theorem c6 : cellsR (rwI .u32) ([] ++ [0, 0, 0, 0, 0, 0]) = [V.i .u32 0, V.i .u32 0, V.i .u32 0, V.i .u32 0, V.i .u32 0, V.i .u32 0] := rfl
theorem u32_app {l : List Int} (h : U32 l) : U32 (l ++ [0, 0, 0, 0, 0, 0]) := by
  intro x hx
  rcases List.mem_append.1 hx with h1 | h1
  · exact h x h1
  · simp at h1; subst h1; exact ⟨by omega, by omega⟩
theorem dif_00 (x y : List Int) (c c2 : Nat) (hx : Byt x) (hy : Byt y) (hxl : x.length ≤ 9223372036854775807) (hyl : y.length ≤ 9223372036854775807) (aa : Option (Nat × Nat)) (bb : Option (Nat × Nat)) :
    FM Try.prog 7 [.sl aa 0 c false, .sl bb 0 c2 false, .s (strOf x), .s (strOf y)] [some ⟨cellsR (rwI .u32) [], 27, false⟩, some ⟨cellsR (rwI .u32) [], 27, false⟩] (fun v _ => v = .b true) := by
  have AW := awake_fm
  have T := dif_tail [] [] ([] ++ [0, 0, 0, 0, 0, 0]) ([] ++ [0, 0, 0, 0, 0, 0]) x y 6 6 (by simp) (by simp) (by simp) (by simp) (by simp) (by simp) (u32_app (fun _ h => by cases h)) (u32_app (fun _ h => by cases h)) hx hy hxl hyl
  simp only [c6] at T
  refine FM.pbody (tb := tb) (fn := Try.f7) rfl rfl ?_
  simp only [argS, Nat.reduceAdd, List.length_cons, List.length_nil]
  refine jq ?_
  refine jg ?_
  refine jo ?_
  refine je ?_
  iterate 2 refine jq ?_
  refine jg ?_
  refine jc [] AW (by simp [jOb, app6]) (by simp [jEb, jOb, jMb, mapL_cellsR, okL_cellsR, app6]) ?_; rintro _ _ ⟨rfl, rfl⟩ -; simp only [jPg, jMb, ll, Nat.reduceAdd, Nat.reduceLT, Nat.zero_add, if_true, if_false, Nat.reduceSub, reduceIte, mapL_cellsR, Nat.lt_irrefl, Nat.not_lt_zero, Nat.zero_lt_succ, Nat.lt_add_one, app6]
  refine jB false ?_
  refine je ?_
  refine WS.pcondF rfl rfl ?_
  refine WS.pskip rfl ?_
  refine jq ?_
  refine jg ?_
  refine jn ?_
  refine jo ?_
  refine WS.po (tb := tb) rfl rfl rfl rfl (step_H rfl rfl (evH_append_none rfl rfl rfl rfl rfl rfl rfl rfl rfl (by omega) (by omega))) ?_; (try rw [upd_mem _ rfl]); (try rw [new_mem]); (try simp only [List.set_cons_zero, List.set_cons_succ, List.cons_append, List.nil_append, mem_next, List.length_cons, List.length_nil, Nat.zero_add, Nat.reduceAdd, List.drop_zero, vcells, cellsI_app1, cellsB_app1, cellsI_cons, repsI, repsB, app6])
  refine jn ?_
  refine WS.po (tb := tb) rfl rfl rfl rfl (step_H rfl rfl (evH_append_empty rfl rfl rfl rfl rfl rfl rfl rfl rfl (by omega) (by omega) (cellsAt_all rfl rfl) (by first | exact rfl | (simp only [vcells, List.length_cons, List.length_nil, cellsI_len, cellsB_len, List.length_set, List.length_replicate, List.length_append, List.length_map, List.length_take, List.length_drop] <;> omega) | omega) (by omega))) ?_; (try rw [upd_mem _ rfl]); (try rw [new_mem]); (try simp only [List.set_cons_zero, List.set_cons_succ, List.cons_append, List.nil_append, mem_next, List.length_cons, List.length_nil, Nat.zero_add, Nat.reduceAdd, List.drop_zero, vcells, cellsI_app1, cellsB_app1, cellsI_cons, repsI, repsB, app6])
  refine jo ?_
  refine je ?_
  refine jq ?_
  refine jg ?_
  refine jn ?_
  refine jo ?_
  refine WS.po (tb := tb) rfl rfl rfl rfl (step_H rfl rfl (evH_append_none rfl rfl rfl rfl rfl rfl rfl rfl rfl (by omega) (by omega))) ?_; (try rw [upd_mem _ rfl]); (try rw [new_mem]); (try simp only [List.set_cons_zero, List.set_cons_succ, List.cons_append, List.nil_append, mem_next, List.length_cons, List.length_nil, Nat.zero_add, Nat.reduceAdd, List.drop_zero, vcells, cellsI_app1, cellsB_app1, cellsI_cons, repsI, repsB, app6])
  refine jn ?_
  refine WS.po (tb := tb) rfl rfl rfl rfl (step_H rfl rfl (evH_append_empty rfl rfl rfl rfl rfl rfl rfl rfl rfl (by omega) (by omega) (cellsAt_all rfl rfl) (by first | exact rfl | (simp only [vcells, List.length_cons, List.length_nil, cellsI_len, cellsB_len, List.length_set, List.length_replicate, List.length_append, List.length_map, List.length_take, List.length_drop] <;> omega) | omega) (by omega))) ?_; (try rw [upd_mem _ rfl]); (try rw [new_mem]); (try simp only [List.set_cons_zero, List.set_cons_succ, List.cons_append, List.nil_append, mem_next, List.length_cons, List.length_nil, Nat.zero_add, Nat.reduceAdd, List.drop_zero, vcells, cellsI_app1, cellsB_app1, cellsI_cons, repsI, repsB, app6])
  refine jo ?_
  refine je ?_
  refine jq ?_
  exact WS.seen [0,1,4,7] (jSb (by simp [jVb, jOb, jMb, mapL_cellsR, okL_cellsR]) (by simp only [jSl, jOb, jMb, Nat.reduceAdd, Nat.reduceLT] <;> exact jClo)) T
theorem dif_01 (x y : List Int) (c c2 : Nat) (hx : Byt x) (hy : Byt y) (hxl : x.length ≤ 9223372036854775807) (hyl : y.length ≤ 9223372036854775807) (aa : Option (Nat × Nat)) (m : List Int) (hm0 : 0 < m.length) (hm : m.length * 4 ≤ 140737488351232) (hub : U32 m) :
    FM Try.prog 7 [.sl aa 0 c false, .sl (some (1,0)) m.length c2 false, .s (strOf x), .s (strOf y)] [some ⟨cellsR (rwI .u32) [], 27, false⟩, some ⟨cellsR (rwI .u32) m, 27, false⟩] (fun v _ => v = .b true) := by
  have AW := awake_fm
  have T := dif_tail [] m ([] ++ [0, 0, 0, 0, 0, 0]) (m ++ [0, 0, 0, 0, 0, 0]) x y 6 (m.length + 6) (by simp) (by simp) (by simp) (by simp) (by simp) (by simp; omega) (u32_app (fun _ h => by cases h)) (u32_app hub) hx hy hxl hyl
  simp only [c6] at T
  refine FM.pbody (tb := tb) (fn := Try.f7) rfl rfl ?_
  simp only [argS, Nat.reduceAdd, List.length_cons, List.length_nil]
  refine jq ?_
  refine jg ?_
  refine jo ?_
  refine je ?_
  iterate 2 refine jq ?_
  refine jg ?_
  refine jc [] AW (by simp [jOb, app6]) (by simp [jEb, jOb, jMb, mapL_cellsR, okL_cellsR, app6]) ?_; rintro _ _ ⟨rfl, rfl⟩ -; simp only [jPg, jMb, ll, Nat.reduceAdd, Nat.reduceLT, Nat.zero_add, if_true, if_false, Nat.reduceSub, reduceIte, mapL_cellsR, Nat.lt_irrefl, Nat.not_lt_zero, Nat.zero_lt_succ, Nat.lt_add_one, app6]
  refine jB false ?_
  refine je ?_
  refine WS.pcondF rfl rfl ?_
  refine WS.pskip rfl ?_
  refine jq ?_
  refine jg ?_
  refine jn ?_
  refine jo ?_
  refine WS.po (tb := tb) rfl rfl rfl rfl (step_H rfl rfl (evH_append_none rfl rfl rfl rfl rfl rfl rfl rfl rfl (by omega) (by omega))) ?_; (try rw [upd_mem _ rfl]); (try rw [new_mem]); (try simp only [List.set_cons_zero, List.set_cons_succ, List.cons_append, List.nil_append, mem_next, List.length_cons, List.length_nil, Nat.zero_add, Nat.reduceAdd, List.drop_zero, vcells, cellsI_app1, cellsB_app1, cellsI_cons, repsI, repsB, app6])
  refine jn ?_
  refine WS.po (tb := tb) rfl rfl rfl rfl (step_H rfl rfl (evH_append_empty rfl rfl rfl rfl rfl rfl rfl rfl rfl (by omega) (by omega) (cellsAt_all rfl rfl) (by first | exact rfl | (simp only [vcells, List.length_cons, List.length_nil, cellsI_len, cellsB_len, List.length_set, List.length_replicate, List.length_append, List.length_map, List.length_take, List.length_drop] <;> omega) | omega) (by omega))) ?_; (try rw [upd_mem _ rfl]); (try rw [new_mem]); (try simp only [List.set_cons_zero, List.set_cons_succ, List.cons_append, List.nil_append, mem_next, List.length_cons, List.length_nil, Nat.zero_add, Nat.reduceAdd, List.drop_zero, vcells, cellsI_app1, cellsB_app1, cellsI_cons, repsI, repsB, app6])
  refine jo ?_
  refine je ?_
  refine jq ?_
  refine jg ?_
  refine jn ?_
  refine jo ?_
  refine WS.po (tb := tb) rfl rfl rfl rfl (step_H rfl rfl (evH_append_empty rfl rfl rfl rfl rfl rfl rfl rfl rfl (by omega) (by omega) (cellsAt_rowG (R := rwI .u32) rfl (by simp only [rwI])) (by first | exact rfl | (simp only [vcells, List.length_cons, List.length_nil, cellsI_len, cellsB_len, List.length_set, List.length_replicate, List.length_append, List.length_map, List.length_take, List.length_drop] <;> omega) | omega) (by omega))) ?_; (try rw [upd_mem _ rfl]); (try rw [new_mem]); (try simp only [List.set_cons_zero, List.set_cons_succ, List.cons_append, List.nil_append, mem_next, List.length_cons, List.length_nil, Nat.zero_add, Nat.reduceAdd, List.drop_zero, vcells, cellsI_app1, cellsB_app1, cellsI_cons, repsI, repsB, app6])
  refine jn ?_
  refine WS.po (tb := tb) rfl rfl rfl rfl (step_H rfl rfl (evH_append_open rfl rfl rfl rfl rfl rfl rfl rfl rfl (by omega) rfl (Nat.zero_le _) (by omega) (cellsAt_all rfl rfl) (by first | exact rfl | (simp only [vcells, List.length_cons, List.length_nil, cellsI_len, cellsB_len, List.length_set, List.length_replicate, List.length_append, List.length_map, List.length_take, List.length_drop] <;> omega) | omega) (by first | exact rfl | (simp only [vcells, List.length_cons, List.length_nil, cellsI_len, cellsB_len, List.length_set, List.length_replicate, List.length_append, List.length_map, List.length_take, List.length_drop] <;> omega) | omega) rfl (by omega))) ?_; (try rw [upd_mem _ rfl]); (try rw [new_mem]); (try simp only [List.set_cons_zero, List.set_cons_succ, List.cons_append, List.nil_append, mem_next, List.length_cons, List.length_nil, Nat.zero_add, Nat.reduceAdd, List.drop_zero, vcells, cellsI_app1, cellsB_app1, cellsI_cons, repsI, repsB, app6])
  refine jo ?_
  refine je ?_
  refine jq ?_
  exact WS.seen [0,1,4,8] (jSb (by simp [jVb, jOb, jMb, mapL_cellsR, okL_cellsR]) (by simp only [jSl, jOb, jMb, Nat.reduceAdd, Nat.reduceLT] <;> exact jClo)) T
theorem dif_10 (x y : List Int) (c c2 : Nat) (hx : Byt x) (hy : Byt y) (hxl : x.length ≤ 9223372036854775807) (hyl : y.length ≤ 9223372036854775807) (l : List Int) (hl0 : 0 < l.length) (hl : l.length * 4 ≤ 140737488351232) (hua : U32 l) (bb : Option (Nat × Nat)) :
    FM Try.prog 7 [.sl (some (0,0)) l.length c false, .sl bb 0 c2 false, .s (strOf x), .s (strOf y)] [some ⟨cellsR (rwI .u32) l, 27, false⟩, some ⟨cellsR (rwI .u32) [], 27, false⟩] (fun v _ => v = .b true) := by
  have AW := awake_fm
  have T := dif_tail l [] (l ++ [0, 0, 0, 0, 0, 0]) ([] ++ [0, 0, 0, 0, 0, 0]) x y (l.length + 6) 6 (by simp) (by simp) (by simp) (by simp) (by simp; omega) (by simp) (u32_app hua) (u32_app (fun _ h => by cases h)) hx hy hxl hyl
  simp only [c6] at T
  refine FM.pbody (tb := tb) (fn := Try.f7) rfl rfl ?_
  simp only [argS, Nat.reduceAdd, List.length_cons, List.length_nil]
  refine jq ?_
  refine jg ?_
  refine jo ?_
  refine je ?_
  iterate 2 refine jq ?_
  refine jg ?_
  refine jc [] AW (by simp [jOb, app6]) (by simp [jEb, jOb, jMb, mapL_cellsR, okL_cellsR, app6]) ?_; rintro _ _ ⟨rfl, rfl⟩ -; simp only [jPg, jMb, ll, Nat.reduceAdd, Nat.reduceLT, Nat.zero_add, if_true, if_false, Nat.reduceSub, reduceIte, mapL_cellsR, Nat.lt_irrefl, Nat.not_lt_zero, Nat.zero_lt_succ, Nat.lt_add_one, app6]
  refine jB false ?_
  refine je ?_
  refine WS.pcondF rfl rfl ?_
  refine WS.pskip rfl ?_
  refine jq ?_
  refine jg ?_
  refine jn ?_
  refine jo ?_
  refine WS.po (tb := tb) rfl rfl rfl rfl (step_H rfl rfl (evH_append_empty rfl rfl rfl rfl rfl rfl rfl rfl rfl (by omega) (by omega) (cellsAt_rowG (R := rwI .u32) rfl (by simp only [rwI])) (by first | exact rfl | (simp only [vcells, List.length_cons, List.length_nil, cellsI_len, cellsB_len, List.length_set, List.length_replicate, List.length_append, List.length_map, List.length_take, List.length_drop] <;> omega) | omega) (by omega))) ?_; (try rw [upd_mem _ rfl]); (try rw [new_mem]); (try simp only [List.set_cons_zero, List.set_cons_succ, List.cons_append, List.nil_append, mem_next, List.length_cons, List.length_nil, Nat.zero_add, Nat.reduceAdd, List.drop_zero, vcells, cellsI_app1, cellsB_app1, cellsI_cons, repsI, repsB, app6])
  refine jn ?_
  refine WS.po (tb := tb) rfl rfl rfl rfl (step_H rfl rfl (evH_append_open rfl rfl rfl rfl rfl rfl rfl rfl rfl (by omega) rfl (Nat.zero_le _) (by omega) (cellsAt_all rfl rfl) (by first | exact rfl | (simp only [vcells, List.length_cons, List.length_nil, cellsI_len, cellsB_len, List.length_set, List.length_replicate, List.length_append, List.length_map, List.length_take, List.length_drop] <;> omega) | omega) (by first | exact rfl | (simp only [vcells, List.length_cons, List.length_nil, cellsI_len, cellsB_len, List.length_set, List.length_replicate, List.length_append, List.length_map, List.length_take, List.length_drop] <;> omega) | omega) rfl (by omega))) ?_; (try rw [upd_mem _ rfl]); (try rw [new_mem]); (try simp only [List.set_cons_zero, List.set_cons_succ, List.cons_append, List.nil_append, mem_next, List.length_cons, List.length_nil, Nat.zero_add, Nat.reduceAdd, List.drop_zero, vcells, cellsI_app1, cellsB_app1, cellsI_cons, repsI, repsB, app6])
  refine jo ?_
  refine je ?_
  refine jq ?_
  refine jg ?_
  refine jn ?_
  refine jo ?_
  refine WS.po (tb := tb) rfl rfl rfl rfl (step_H rfl rfl (evH_append_none rfl rfl rfl rfl rfl rfl rfl rfl rfl (by omega) (by omega))) ?_; (try rw [upd_mem _ rfl]); (try rw [new_mem]); (try simp only [List.set_cons_zero, List.set_cons_succ, List.cons_append, List.nil_append, mem_next, List.length_cons, List.length_nil, Nat.zero_add, Nat.reduceAdd, List.drop_zero, vcells, cellsI_app1, cellsB_app1, cellsI_cons, repsI, repsB, app6])
  refine jn ?_
  refine WS.po (tb := tb) rfl rfl rfl rfl (step_H rfl rfl (evH_append_empty rfl rfl rfl rfl rfl rfl rfl rfl rfl (by omega) (by omega) (cellsAt_all rfl rfl) (by first | exact rfl | (simp only [vcells, List.length_cons, List.length_nil, cellsI_len, cellsB_len, List.length_set, List.length_replicate, List.length_append, List.length_map, List.length_take, List.length_drop] <;> omega) | omega) (by omega))) ?_; (try rw [upd_mem _ rfl]); (try rw [new_mem]); (try simp only [List.set_cons_zero, List.set_cons_succ, List.cons_append, List.nil_append, mem_next, List.length_cons, List.length_nil, Nat.zero_add, Nat.reduceAdd, List.drop_zero, vcells, cellsI_app1, cellsB_app1, cellsI_cons, repsI, repsB, app6])
  refine jo ?_
  refine je ?_
  refine jq ?_
  exact WS.seen [0,1,5,8] (jSb (by simp [jVb, jOb, jMb, mapL_cellsR, okL_cellsR]) (by simp only [jSl, jOb, jMb, Nat.reduceAdd, Nat.reduceLT] <;> exact jClo)) T
theorem dif_11 (x y : List Int) (c c2 : Nat) (hx : Byt x) (hy : Byt y) (hxl : x.length ≤ 9223372036854775807) (hyl : y.length ≤ 9223372036854775807) (l : List Int) (hl0 : 0 < l.length) (hl : l.length * 4 ≤ 140737488351232) (hua : U32 l) (m : List Int) (hm0 : 0 < m.length) (hm : m.length * 4 ≤ 140737488351232) (hub : U32 m) :
    FM Try.prog 7 [.sl (some (0,0)) l.length c false, .sl (some (1,0)) m.length c2 false, .s (strOf x), .s (strOf y)] [some ⟨cellsR (rwI .u32) l, 27, false⟩, some ⟨cellsR (rwI .u32) m, 27, false⟩] (fun v _ => v = .b true) := by
  have AW := awake_fm
  have T := dif_tail l m (l ++ [0, 0, 0, 0, 0, 0]) (m ++ [0, 0, 0, 0, 0, 0]) x y (l.length + 6) (m.length + 6) (by simp) (by simp) (by simp) (by simp) (by simp; omega) (by simp; omega) (u32_app hua) (u32_app hub) hx hy hxl hyl
  refine FM.pbody (tb := tb) (fn := Try.f7) rfl rfl ?_
  simp only [argS, Nat.reduceAdd, List.length_cons, List.length_nil]
  refine jq ?_
  refine jg ?_
  refine jo ?_
  refine je ?_
  iterate 2 refine jq ?_
  refine jg ?_
  refine jc [] AW (by simp [jOb, app6]) (by simp [jEb, jOb, jMb, mapL_cellsR, okL_cellsR, app6]) ?_; rintro _ _ ⟨rfl, rfl⟩ -; simp only [jPg, jMb, ll, Nat.reduceAdd, Nat.reduceLT, Nat.zero_add, if_true, if_false, Nat.reduceSub, reduceIte, mapL_cellsR, Nat.lt_irrefl, Nat.not_lt_zero, Nat.zero_lt_succ, Nat.lt_add_one, app6]
  refine jB false ?_
  refine je ?_
  refine WS.pcondF rfl rfl ?_
  refine WS.pskip rfl ?_
  refine jq ?_
  refine jg ?_
  refine jn ?_
  refine jo ?_
  refine WS.po (tb := tb) rfl rfl rfl rfl (step_H rfl rfl (evH_append_empty rfl rfl rfl rfl rfl rfl rfl rfl rfl (by omega) (by omega) (cellsAt_rowG (R := rwI .u32) rfl (by simp only [rwI])) (by first | exact rfl | (simp only [vcells, List.length_cons, List.length_nil, cellsI_len, cellsB_len, List.length_set, List.length_replicate, List.length_append, List.length_map, List.length_take, List.length_drop] <;> omega) | omega) (by omega))) ?_; (try rw [upd_mem _ rfl]); (try rw [new_mem]); (try simp only [List.set_cons_zero, List.set_cons_succ, List.cons_append, List.nil_append, mem_next, List.length_cons, List.length_nil, Nat.zero_add, Nat.reduceAdd, List.drop_zero, vcells, cellsI_app1, cellsB_app1, cellsI_cons, repsI, repsB, app6])
  refine jn ?_
  refine WS.po (tb := tb) rfl rfl rfl rfl (step_H rfl rfl (evH_append_open rfl rfl rfl rfl rfl rfl rfl rfl rfl (by omega) rfl (Nat.zero_le _) (by omega) (cellsAt_all rfl rfl) (by first | exact rfl | (simp only [vcells, List.length_cons, List.length_nil, cellsI_len, cellsB_len, List.length_set, List.length_replicate, List.length_append, List.length_map, List.length_take, List.length_drop] <;> omega) | omega) (by first | exact rfl | (simp only [vcells, List.length_cons, List.length_nil, cellsI_len, cellsB_len, List.length_set, List.length_replicate, List.length_append, List.length_map, List.length_take, List.length_drop] <;> omega) | omega) rfl (by omega))) ?_; (try rw [upd_mem _ rfl]); (try rw [new_mem]); (try simp only [List.set_cons_zero, List.set_cons_succ, List.cons_append, List.nil_append, mem_next, List.length_cons, List.length_nil, Nat.zero_add, Nat.reduceAdd, List.drop_zero, vcells, cellsI_app1, cellsB_app1, cellsI_cons, repsI, repsB, app6])
  refine jo ?_
  refine je ?_
  refine jq ?_
  refine jg ?_
  refine jn ?_
  refine jo ?_
  refine WS.po (tb := tb) rfl rfl rfl rfl (step_H rfl rfl (evH_append_empty rfl rfl rfl rfl rfl rfl rfl rfl rfl (by omega) (by omega) (cellsAt_rowG (R := rwI .u32) rfl (by simp only [rwI])) (by first | exact rfl | (simp only [vcells, List.length_cons, List.length_nil, cellsI_len, cellsB_len, List.length_set, List.length_replicate, List.length_append, List.length_map, List.length_take, List.length_drop] <;> omega) | omega) (by omega))) ?_; (try rw [upd_mem _ rfl]); (try rw [new_mem]); (try simp only [List.set_cons_zero, List.set_cons_succ, List.cons_append, List.nil_append, mem_next, List.length_cons, List.length_nil, Nat.zero_add, Nat.reduceAdd, List.drop_zero, vcells, cellsI_app1, cellsB_app1, cellsI_cons, repsI, repsB, app6])
  refine jn ?_
  refine WS.po (tb := tb) rfl rfl rfl rfl (step_H rfl rfl (evH_append_open rfl rfl rfl rfl rfl rfl rfl rfl rfl (by omega) rfl (Nat.zero_le _) (by omega) (cellsAt_all rfl rfl) (by first | exact rfl | (simp only [vcells, List.length_cons, List.length_nil, cellsI_len, cellsB_len, List.length_set, List.length_replicate, List.length_append, List.length_map, List.length_take, List.length_drop] <;> omega) | omega) (by first | exact rfl | (simp only [vcells, List.length_cons, List.length_nil, cellsI_len, cellsB_len, List.length_set, List.length_replicate, List.length_append, List.length_map, List.length_take, List.length_drop] <;> omega) | omega) rfl (by omega))) ?_; (try rw [upd_mem _ rfl]); (try rw [new_mem]); (try simp only [List.set_cons_zero, List.set_cons_succ, List.cons_append, List.nil_append, mem_next, List.length_cons, List.length_nil, Nat.zero_add, Nat.reduceAdd, List.drop_zero, vcells, cellsI_app1, cellsB_app1, cellsI_cons, repsI, repsB, app6])
  refine jo ?_
  refine je ?_
  refine jq ?_
  exact WS.seen [0,1,5,9] (jSb (by simp [jVb, jOb, jMb, mapL_cellsR, okL_cellsR]) (by simp only [jSl, jOb, jMb, Nat.reduceAdd, Nat.reduceLT] <;> exact jClo)) T
theorem differs_calls (a : Option Addr) (c : Nat) (l : List Int) (a2 : Option Addr) (c2 : Nat) (m : List Int) (bx by_ : ByteArray) (W : World) (hr : RowIn W a (cellsR (rwI .u32) l)) (_ : l.length ≤ c) (_ : l.length ≤ maxLen) (hl : l.length * 4 ≤ 140737488351232) (hw : ∀ y ∈ l, (Lit.int .u32 y).wf = true) (hr2 : RowIn W a2 (cellsR (rwI .u32) m)) (_ : m.length ≤ c2) (_ : m.length ≤ maxLen) (hm : m.length * 4 ≤ 140737488351232) (hw2 : ∀ y ∈ m, (Lit.int .u32 y).wf = true) (hbx : bx.size ≤ maxLen) (hby : by_.size ≤ maxLen) :
    Calls Try.prog 7 #[.slice a l.length c, .slice a2 m.length c2, .string bx, .string by_] W (fun e w' => e = .returned (.bool true) ∧ Go.RowKit.Below W.heap.size W w') := by
  obtain ⟨x, hx, rfl⟩ := strOf_all bx
  obtain ⟨y, hy, rfl⟩ := strOf_all by_
  rw [strOf_size] at hbx hby
  have hxl : x.length ≤ 9223372036854775807 := Nat.le_trans hbx (by decide)
  have hyl : y.length ≤ 9223372036854775807 := Nat.le_trans hby (by decide)
  have wf : ∀ z : Int, (Lit.int .u32 z).wf = true → u32 z := fun z h => by
    simp only [Lit.wf, IntKind.min, IntKind.max, IntKind.signed, IntKind.bits, Bool.and_eq_true, decide_eq_true_eq, if_true, Bool.false_eq_true, if_false] at h
    exact ⟨by omega, by omega⟩
  have hua : U32 l := fun z hz => wf z (hw z hz)
  have hub : U32 m := fun z hz => wf z (hw2 z hz)
  have key : FM Try.prog 7 [.sl (argA a 0) l.length c false, .sl (argA a2 1) m.length c2 false, .s (strOf x), .s (strOf y)] [some ⟨cellsR (rwI .u32) l, 27, false⟩, some ⟨cellsR (rwI .u32) m, 27, false⟩] (fun v _ => v = .b true) := by
    have hA : 0 < l.length → argA a 0 = some (0, 0) := fun h3 => argA_some hr (by rw [cellsI_len]; omega) 0
    have hB : 0 < m.length → argA a2 1 = some (1, 0) := fun h3 => argA_some hr2 (by rw [cellsI_len]; omega) 1
    by_cases h1 : 0 < l.length
    · rw [hA h1]
      by_cases h2 : 0 < m.length
      · rw [hB h2]
        exact dif_11 x y c c2 hx hy hxl hyl l h1 (by omega) hua m h2 (by omega) hub
      · obtain rfl : m = [] := List.length_eq_zero_iff.1 (by omega)
        exact dif_10 x y c c2 hx hy hxl hyl l h1 (by omega) hua (argA a2 1)
    · obtain rfl : l = [] := List.length_eq_zero_iff.1 (by omega)
      by_cases h2 : 0 < m.length
      · rw [hB h2]
        exact dif_01 x y c c2 hx hy hxl hyl (argA a 0) m h2 (by omega) hub
      · obtain rfl : m = [] := List.length_eq_zero_iff.1 (by omega)
        exact dif_00 x y c c2 hx hy hxl hyl (argA a 0) (argA a2 1)
  have := FM.topR [(a, cellsR (rwI .u32) l, 27), (a2, cellsR (rwI .u32) m, 27)] key ⟨by cases a <;> simp [argA, okV], by cases a2 <;> simp [argA, okV], trivial, trivial, trivial⟩ W (fun x hx => by
    rcases List.mem_cons.1 hx with rfl | hx
    · exact ⟨hr, okL_cellsR 0 _ l⟩
    · rcases List.mem_singleton.1 hx with rfl
      exact ⟨hr2, okL_cellsR 0 _ m⟩)
  simp only [conL, con_argA [(a, cellsR (rwI .u32) l, 27), (a2, cellsR (rwI .u32) m, 27)] 0 (a, cellsR (rwI .u32) l, 27) rfl, con_argA [(a, cellsR (rwI .u32) l, 27), (a2, cellsR (rwI .u32) m, 27)] 1 (a2, cellsR (rwI .u32) m, 27) rfl] at this
  exact this
end Go.Proofs.Ytnogdgdkeojlpaa.Am

