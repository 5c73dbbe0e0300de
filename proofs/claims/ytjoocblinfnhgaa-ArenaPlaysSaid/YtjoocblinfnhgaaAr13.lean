/- ArenaPlays answers true for any size and any calls, in every world. Conditions: the row lies in memory. -/
import Derived.Test.YtjoocblinfnhgaaAm5
import Derived.Test.YtjoocblinfnhgaaAr12
namespace Go.Proofs.Ytjoocblinfnhgaa.Am
open Go.Proofs
set_option maxRecDepth 100000
set_option maxHeartbeats 4000000
set_option linter.unusedSimpArgs false
set_option linter.unusedVariables false
theorem plays_bad (z : Int) (l : List Act) (a : Option (Nat × Nat)) (c : Nat) (h : z < 1 ∨ 512 < z) : FM Try.prog 4 [.i .i64 z, .sl a l.length c false] [some ⟨cellsR rwAct l, 36, false⟩] (fun v _ => v = .b true) := by
  refine FM.pbody (tb := tb) (fn := Try.f4) rfl rfl ?_
  simp only [argS, Nat.reduceAdd, List.length_cons, List.length_nil]
  focus
    refine WS.pseq rfl ?_
    refine WS.pregion rfl ?_
    refine WS.po (tb := tb) rfl rfl rfl rfl rfl ?_
    refine WS.pend rfl ?_
    refine WS.pseq rfl ?_
    refine WS.pseq rfl ?_
    refine WS.pregion rfl ?_
    refine WS.pcallM (tb := tb) [] awake_fm rfl rfl rfl rfl rfl (by (try simp only [mapL, mapV, List.getD_cons_zero, List.getD_cons_succ]); exact rfl) (by simp [okL, okV]) rfl (by simp [embP, okL, okV, mapL, mapV, mem_next, mem_get, mem_ro, mapL_cellsR, okL_cellsR]) rfl ?_; rintro _ _ ⟨rfl, rfl⟩ -; simp only [plugL, setsL, newsL, isOwn, ownB, over, mapL, mapV, List.getD_cons_zero, List.getD_cons_succ, List.set_cons_zero, List.set_cons_succ, List.length_cons, List.length_nil, Nat.reduceAdd, Nat.reduceLT, Nat.zero_add, if_true, if_false, Nat.reduceSub, reduceIte, List.map_cons, List.map_nil, List.append_nil, List.cons_append, List.nil_append, mapL_cellsR, Nat.lt_irrefl, Nat.not_lt_zero, Nat.zero_lt_succ, Nat.lt_add_one]
    refine WS.poB (tb := tb) false rfl rfl rfl rfl rfl rfl ?_
    refine WS.pend rfl ?_
    refine WS.pcondF rfl rfl ?_
    refine WS.pskip rfl ?_
    refine WS.pseq rfl ?_
    refine WS.pregion rfl ?_
    refine WS.po (tb := tb) rfl rfl rfl rfl rfl ?_
    refine WS.pcallM (tb := tb) [] (new_bad z h) rfl rfl rfl rfl rfl (by (try simp only [mapL, mapV, List.getD_cons_zero, List.getD_cons_succ]); exact rfl) (by simp [okL, okV]) rfl (by simp [embP, okL, okV, mapL, mapV, mem_next, mem_get, mem_ro, mapL_cellsR, okL_cellsR]) rfl ?_; rintro _ _ ⟨rfl, rfl⟩ -; simp only [plugL, setsL, newsL, isOwn, ownB, over, mapL, mapV, List.getD_cons_zero, List.getD_cons_succ, List.set_cons_zero, List.set_cons_succ, List.length_cons, List.length_nil, Nat.reduceAdd, Nat.reduceLT, Nat.zero_add, if_true, if_false, Nat.reduceSub, reduceIte, List.map_cons, List.map_nil, List.append_nil, List.cons_append, List.nil_append, mapL_cellsR, Nat.lt_irrefl, Nat.not_lt_zero, Nat.zero_lt_succ, Nat.lt_add_one]
    refine WS.po (tb := tb) rfl rfl rfl rfl rfl ?_
    refine WS.po (tb := tb) rfl rfl rfl rfl rfl ?_
    refine WS.po (tb := tb) rfl rfl rfl rfl rfl ?_
    refine WS.po (tb := tb) rfl rfl rfl rfl rfl ?_
    refine WS.po (tb := tb) rfl rfl rfl rfl rfl ?_
    refine WS.pend rfl ?_
    refine WS.pseq rfl ?_
    refine WS.pseq rfl ?_
    refine WS.pregion rfl ?_
    refine WS.po (tb := tb) rfl rfl rfl rfl rfl ?_
    refine WS.poDS (tb := tb) rfl rfl rfl rfl rfl (fun hb__ => ?_) (fun hb__ => ?_)
    refine WS.po (tb := tb) rfl rfl rfl rfl rfl ?_
    refine WS.pono rfl rfl rfl rfl ?_
    refine WS.pono rfl rfl rfl rfl ?_
    refine WS.po (tb := tb) rfl rfl rfl rfl rfl ?_
    refine WS.pend rfl ?_
    refine WS.pcondT rfl rfl ?_
    refine WS.pseq rfl ?_
    refine WS.pregion rfl ?_
    refine WS.po (tb := tb) rfl rfl rfl rfl rfl ?_
    refine WS.poB (tb := tb) true rfl rfl rfl rfl rfl rfl ?_
    refine WS.po (tb := tb) rfl rfl rfl rfl rfl ?_
    refine WS.po (tb := tb) rfl rfl rfl rfl rfl ?_
    refine WS.poB (tb := tb) true rfl rfl rfl rfl rfl rfl ?_
    refine WS.po (tb := tb) rfl rfl rfl rfl rfl ?_
    refine WS.po (tb := tb) rfl rfl rfl rfl rfl ?_
    refine WS.pend rfl ?_
    refine WS.pret rfl ⟨.inr rfl, _, rfl, ?_⟩
    rotate_left
    refine WS.po (tb := tb) rfl rfl rfl rfl rfl ?_
    refine WS.po (tb := tb) rfl rfl rfl rfl rfl ?_
    refine WS.poDT (tb := tb) rfl rfl rfl rfl rfl (by omega) ?_
    refine WS.po (tb := tb) rfl rfl rfl rfl rfl ?_
    refine WS.pend rfl ?_
    refine WS.pcondT rfl rfl ?_
    refine WS.pseq rfl ?_
    refine WS.pregion rfl ?_
    refine WS.po (tb := tb) rfl rfl rfl rfl rfl ?_
    refine WS.poB (tb := tb) true rfl rfl rfl rfl rfl rfl ?_
    refine WS.po (tb := tb) rfl rfl rfl rfl rfl ?_
    refine WS.po (tb := tb) rfl rfl rfl rfl rfl ?_
    refine WS.poB (tb := tb) true rfl rfl rfl rfl rfl rfl ?_
    refine WS.po (tb := tb) rfl rfl rfl rfl rfl ?_
    refine WS.po (tb := tb) rfl rfl rfl rfl rfl ?_
    refine WS.pend rfl ?_
    refine WS.pret rfl ⟨.inr rfl, _, rfl, ?_⟩
    rotate_left
  all_goals exact ⟨_, rfl, rfl⟩
theorem plays_far (size : Nat) (l : List Act) (a : Option (Nat × Nat)) (c : Nat) (h1 : 1 ≤ size) (h2 : size ≤ 512) (h : 200 < l.length ∨ 60 < size) (hl : l.length ≤ 9223372036854775807) : FM Try.prog 4 [.i .i64 size, .sl a l.length c false] [some ⟨cellsR rwAct l, 36, false⟩] (fun v _ => v = .b true) := by
  refine FM.pbody (tb := tb) (fn := Try.f4) rfl rfl ?_
  simp only [argS, Nat.reduceAdd, List.length_cons, List.length_nil]
  focus
    refine WS.pseq rfl ?_
    refine WS.pregion rfl ?_
    refine WS.po (tb := tb) rfl rfl rfl rfl rfl ?_
    refine WS.pend rfl ?_
    refine WS.pseq rfl ?_
    refine WS.pseq rfl ?_
    refine WS.pregion rfl ?_
    refine WS.pcallM (tb := tb) [] awake_fm rfl rfl rfl rfl rfl (by (try simp only [mapL, mapV, List.getD_cons_zero, List.getD_cons_succ]); exact rfl) (by simp [okL, okV, arM, iniP_len]) rfl (by simp [embP, okL, okV, mapL, mapV, mem_next, mem_get, mem_ro, mapL_cellsR, okL_cellsR, arM, iniP_len]) rfl ?_; rintro _ _ ⟨rfl, rfl⟩ -; simp only [plugL, setsL, newsL, isOwn, ownB, over, mapL, mapV, List.getD_cons_zero, List.getD_cons_succ, List.set_cons_zero, List.set_cons_succ, List.length_cons, List.length_nil, Nat.reduceAdd, Nat.reduceLT, Nat.zero_add, if_true, if_false, Nat.reduceSub, reduceIte, List.map_cons, List.map_nil, List.append_nil, List.cons_append, List.nil_append, mapL_cellsR, Nat.lt_irrefl, Nat.not_lt_zero, Nat.zero_lt_succ, Nat.lt_add_one, arM, iniP_len]
    refine WS.poB (tb := tb) false rfl rfl rfl rfl rfl rfl ?_
    refine WS.pend rfl ?_
    refine WS.pcondF rfl rfl ?_
    refine WS.pskip rfl ?_
    refine WS.pseq rfl ?_
    refine WS.pregion rfl ?_
    refine WS.po (tb := tb) rfl rfl rfl rfl rfl ?_
    refine WS.pcallM (tb := tb) [] (new_ok size h1 h2) rfl rfl rfl rfl rfl (by (try simp only [mapL, mapV, List.getD_cons_zero, List.getD_cons_succ]); exact rfl) (by simp [okL, okV, arM, iniP_len]) rfl (by simp [embP, okL, okV, mapL, mapV, mem_next, mem_get, mem_ro, mapL_cellsR, okL_cellsR, arM, iniP_len]) rfl ?_; rintro _ _ ⟨rfl, rfl⟩ -; simp only [plugL, setsL, newsL, isOwn, ownB, over, mapL, mapV, List.getD_cons_zero, List.getD_cons_succ, List.set_cons_zero, List.set_cons_succ, List.length_cons, List.length_nil, Nat.reduceAdd, Nat.reduceLT, Nat.zero_add, if_true, if_false, Nat.reduceSub, reduceIte, List.map_cons, List.map_nil, List.append_nil, List.cons_append, List.nil_append, mapL_cellsR, Nat.lt_irrefl, Nat.not_lt_zero, Nat.zero_lt_succ, Nat.lt_add_one, arM, iniP_len]
    refine WS.po (tb := tb) rfl rfl rfl rfl rfl ?_
    refine WS.po (tb := tb) rfl rfl rfl rfl rfl ?_
    refine WS.po (tb := tb) rfl rfl rfl rfl rfl ?_
    refine WS.po (tb := tb) rfl rfl rfl rfl rfl ?_
    refine WS.po (tb := tb) rfl rfl rfl rfl rfl ?_
    refine WS.pend rfl ?_
    refine WS.pseq rfl ?_
    refine WS.pseq rfl ?_
    refine WS.pregion rfl ?_
    refine WS.po (tb := tb) rfl rfl rfl rfl rfl ?_
    refine WS.poDF (tb := tb) rfl rfl rfl rfl rfl (by omega) ?_
    refine WS.po (tb := tb) rfl rfl rfl rfl rfl ?_
    refine WS.po (tb := tb) rfl rfl rfl rfl rfl ?_
    refine WS.poDF (tb := tb) rfl rfl rfl rfl rfl (by omega) ?_
    refine WS.po (tb := tb) rfl rfl rfl rfl rfl ?_
    refine WS.pend rfl ?_
    refine WS.pcondF rfl rfl ?_
    refine WS.pskip rfl ?_
    refine WS.pseq rfl ?_
    refine WS.pseq rfl ?_
    refine WS.pregion rfl ?_
    refine WS.po (tb := tb) rfl rfl rfl rfl rfl ?_
    refine WS.poB (tb := tb) false rfl rfl rfl rfl rfl rfl ?_
    refine WS.po (tb := tb) rfl rfl rfl rfl rfl ?_
    refine WS.po (tb := tb) rfl rfl rfl rfl rfl ?_
    refine WS.poB (tb := tb) false rfl rfl rfl rfl rfl rfl ?_
    refine WS.po (tb := tb) rfl rfl rfl rfl rfl ?_
    refine WS.po (tb := tb) rfl rfl rfl rfl rfl ?_
    refine WS.po (tb := tb) rfl rfl rfl rfl rfl ?_
    refine WS.po (tb := tb) rfl rfl rfl rfl rfl ?_
    refine WS.poDS (tb := tb) rfl rfl rfl rfl rfl (fun hb__ => ?_) (fun hb__ => ?_)
    refine WS.po (tb := tb) rfl rfl rfl rfl rfl ?_
    refine WS.po (tb := tb) rfl rfl rfl rfl rfl ?_
    refine WS.pono rfl rfl rfl rfl ?_
    refine WS.pono rfl rfl rfl rfl ?_
    refine WS.po (tb := tb) rfl rfl rfl rfl rfl ?_
    refine WS.pend rfl ?_
    refine WS.pcondT rfl rfl ?_
    refine WS.pseq rfl ?_
    refine WS.pregion rfl ?_
    refine WS.po (tb := tb) rfl rfl rfl rfl rfl ?_
    refine WS.poB (tb := tb) true rfl rfl rfl rfl rfl rfl ?_
    refine WS.po (tb := tb) rfl rfl rfl rfl rfl ?_
    refine WS.pend rfl ?_
    refine WS.pret rfl ⟨.inr rfl, _, rfl, ?_⟩
    rotate_left
    refine WS.po (tb := tb) rfl rfl rfl rfl rfl ?_
    refine WS.po (tb := tb) rfl rfl rfl rfl rfl ?_
    refine WS.po (tb := tb) rfl rfl rfl rfl rfl ?_
    refine WS.poDT (tb := tb) rfl rfl rfl rfl rfl (by omega) ?_
    refine WS.po (tb := tb) rfl rfl rfl rfl rfl ?_
    refine WS.pend rfl ?_
    refine WS.pcondT rfl rfl ?_
    refine WS.pseq rfl ?_
    refine WS.pregion rfl ?_
    refine WS.po (tb := tb) rfl rfl rfl rfl rfl ?_
    refine WS.poB (tb := tb) true rfl rfl rfl rfl rfl rfl ?_
    refine WS.po (tb := tb) rfl rfl rfl rfl rfl ?_
    refine WS.pend rfl ?_
    refine WS.pret rfl ⟨.inr rfl, _, rfl, ?_⟩
    rotate_left
  all_goals exact ⟨_, rfl, rfl⟩
theorem plays_calls (z : Int) (a : Option Addr) (cap : Nat) (l : List Act) (W : World) (_ : (Lit.int .i64 z).wf = true) (hr : RowIn W a (cellsR rwAct l)) (hc : l.length ≤ cap) (hm' : l.length ≤ maxLen) {p : Act → Prop} (_ : ∀ y ∈ l, p y) :
    Calls Try.prog 4 #[.int .i64 z, .slice a l.length cap] W (fun e w' => e = .returned (.bool true) ∧ Go.RowKit.Below W.heap.size W w') := by
  have hm : l.length ≤ 9223372036854775807 := Nat.le_trans hm' (by decide)
  have key : FM Try.prog 4 [.i .i64 z, .sl (argA a 0) l.length cap false] [some ⟨cellsR rwAct l, 36, false⟩] (fun v _ => v = .b true) := by
    by_cases h : z < 1 ∨ 512 < z
    · exact plays_bad z l _ cap h
    · obtain ⟨n, rfl⟩ : ∃ n : Nat, z = n := ⟨z.toNat, by omega⟩
      by_cases h2 : 200 < l.length ∨ 60 < n
      · exact plays_far n l _ cap (by omega) (by omega) h2 hm
      · exact plays_main n l _ cap (by omega) (by omega) (by omega) (argA_or a 0) (fun h3 => argA_some hr (by rw [Act_len]; omega) 0)
  have := FM.topR [(a, cellsR rwAct l, 36)] key ⟨trivial, by cases a <;> simp [argA, okV], trivial⟩ W (fun x hx => by
    rcases List.mem_singleton.1 hx with rfl
    exact ⟨hr, okL_cellsR 0 rwAct l⟩)
  simp only [conL, con_argA [(a, cellsR rwAct l, 36)] 0 (a, cellsR rwAct l, 36) rfl] at this
  exact this
end Go.Proofs.Ytjoocblinfnhgaa.Am

