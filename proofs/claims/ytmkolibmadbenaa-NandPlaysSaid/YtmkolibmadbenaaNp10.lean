/- NandPlays answers true for any sizes and calls, in every world. Conditions: the calls lie in memory. -/
import Derived.Test.YtmkolibmadbenaaAm5
import Derived.Test.YtmkolibmadbenaaNp7
import Derived.Test.YtmkolibmadbenaaNp8
import Derived.Test.YtmkolibmadbenaaNp9
import Derived.Test.YtmkolibmadbenaaNs2
namespace Go.Proofs.Ytmkolibmadbenaa.Am
open Go.Proofs
set_option maxRecDepth 1000000
set_option maxHeartbeats 4000000
set_option linter.unusedSimpArgs false
set_option linter.unusedVariables false
theorem pb_all (b p np : Nat) (l : List Act) (c : Nat) (hl : l.length ≤ 40) (hg : ∀ y ∈ l, goodA y) (s : StP) (H : InvP np l.length s) :
    WS Try.prog (frameN Try.f4 3) 1 [.c (k1 (k1 (k2 (k1 (k2 (k2 (k2 (k2 (k2 (k2 (kb Try.f4)))))))))))] (slt (SSp b p l c s)) (mem 0 (PM l s.2)) (PostP b p np l c s) := by
  obtain ⟨i, x⟩ := s
  by_cases h : i < l.length
  · obtain ⟨y, hx⟩ : ∃ y, l[i]? = some y := ⟨_, List.getElem?_eq_getElem h⟩
    have hgy := hg y (List.mem_of_getElem? hx)
    obtain ⟨op, a, short, fill⟩ := y
    by_cases o0 : op = 0
    · exact pb_prog b p np l c i x op a short fill H hl hx hgy o0
    · by_cases o1 : op = 1
      · exact pb_erase b p np l c i x op a short fill H hl hx hgy o1
      · by_cases o2 : op = 2
        · exact pb_read b p np l c i x op a short fill H hl hx hgy o2
        · by_cases o3 : op = 3
          · exact pb_cut b p np l c i x op a short fill H hl hx hgy o3
          · by_cases o4 : op = 4
            · exact pb_fail b p np l c i x op a short fill H hl hx hgy o4
            · by_cases o5 : op = 5
              · exact pb_on b p np l c i x op a short fill H hl hx hgy o5
              · exact pb_none b p np l c i x op a short fill H hl hx hgy ⟨o0, o1, o2, o3, o4, o5⟩
  · have hle := H.le
    dsimp only at hle
    obtain rfl : i = l.length := by omega
    simp only [SSp, PM, ndB, rfB, List.cons_append, List.nil_append]
    iterate 2 refine jq ?_
    refine jg ?_
    iterate 3 refine jo ?_
    refine jDF ?_
    refine je ?_
    refine WS.pcondF rfl rfl ?_
    refine WS.pout rfl rfl ?_
    exact ⟨rfl, (), trivial, (jSn [0] (by simp [jVb, jOb, jMb, mapL_cellsR, okL_cellsR]) (by simp only [jSl, jOb, jMb, Nat.reduceAdd, Nat.reduceLT] <;> exact jClo))⟩
theorem plays_main (b p np : Nat) (l : List Act) (c : Nat) (h1 : 1 ≤ b) (h2 : b ≤ 8) (h3 : 1 ≤ p) (h4 : p ≤ 8) (hp : (b : Int) * p = (np : Int)) (h0 : 1 ≤ np) (hnp : np ≤ 10000) (hl : l.length ≤ 40) (hg : ∀ y ∈ l, goodA y) :
    FM Try.prog 4 [.i .i64 b, .i .i64 p, .sl (some (0,0)) l.length c false] [some ⟨cellsR rwAct l, 38, false⟩] (fun v _ => v = .b true) := by
  have AW := awake_fm
  have N := nnew_ok b p np h1 (by omega) h3 (by omega) hp hnp
  have R := rnew_ok b p np h1 (by omega) h3 (by omega) hp hnp
  refine FM.pbody (tb := tb) (fn := Try.f4) rfl rfl ?_
  simp only [argS, Nat.reduceAdd, List.length_cons, List.length_nil]
  refine jq ?_
  refine jg ?_
  refine jo ?_
  refine je ?_
  iterate 2 refine jq ?_
  refine jg ?_
  refine jc [] AW (by simp [jOb, ndM, rfM]) (by simp [jEb, jOb, jMb, mapL_cellsR, okL_cellsR, ndM, rfM]) ?_; rintro _ _ ⟨rfl, rfl⟩ -; simp only [jPg, jMb, ll, Nat.reduceAdd, Nat.reduceLT, Nat.zero_add, if_true, if_false, Nat.reduceSub, reduceIte, mapL_cellsR, Nat.lt_irrefl, Nat.not_lt_zero, Nat.zero_lt_succ, Nat.lt_add_one, ndM, rfM]
  refine jB false ?_
  refine je ?_
  refine WS.pcondF rfl rfl ?_
  refine WS.pskip rfl ?_
  refine jq ?_
  refine jg ?_
  iterate 2 refine jo ?_
  refine jc [] N (by simp [jOb, ndM, rfM]) (by simp [jEb, jOb, jMb, mapL_cellsR, okL_cellsR, ndM, rfM]) ?_; rintro _ _ ⟨rfl, rfl⟩ -; simp only [jPg, jMb, ll, Nat.reduceAdd, Nat.reduceLT, Nat.zero_add, if_true, if_false, Nat.reduceSub, reduceIte, mapL_cellsR, Nat.lt_irrefl, Nat.not_lt_zero, Nat.zero_lt_succ, Nat.lt_add_one, ndM, rfM]
  iterate 5 refine jo ?_
  refine je ?_
  iterate 2 refine jq ?_
  refine jg ?_
  refine jo ?_
  refine jDF ?_
  iterate 2 refine jo ?_
  refine jDF ?_
  iterate 3 refine jo ?_
  refine jDF ?_
  iterate 3 refine jo ?_
  refine jDF ?_
  refine jo ?_
  refine je ?_
  refine WS.pcondF rfl rfl ?_
  refine WS.pskip rfl ?_
  iterate 2 refine jq ?_
  refine jg ?_
  refine jo ?_
  refine jB false ?_
  iterate 2 refine jo ?_
  refine jB false ?_
  iterate 4 refine jo ?_
  refine jDF ?_
  iterate 3 refine jo ?_
  refine jDF ?_
  iterate 3 refine jo ?_
  refine jDF ?_
  refine jo ?_
  refine je ?_
  refine WS.pcondF rfl rfl ?_
  refine WS.pskip rfl ?_
  refine jq ?_
  refine jg ?_
  iterate 2 refine jo ?_
  refine jc [] R (by simp [jOb, ndM, rfM]) (by simp [jEb, jOb, jMb, mapL_cellsR, okL_cellsR, ndM, rfM]) ?_; rintro _ _ ⟨rfl, rfl⟩ -; simp only [jPg, jMb, ll, Nat.reduceAdd, Nat.reduceLT, Nat.zero_add, if_true, if_false, Nat.reduceSub, reduceIte, mapL_cellsR, Nat.lt_irrefl, Nat.not_lt_zero, Nat.zero_lt_succ, Nat.lt_add_one, ndM, rfM]
  refine jo ?_
  refine je ?_
  iterate 2 refine jq ?_
  refine jg ?_
  refine jo ?_
  refine je ?_
  refine WS.pblock rfl ?_
  refine WS.ploopI (σ := StP) (τ := Unit) (SSp b p l c) (fun a => PM l a.2) (InvP np l.length) (fun s => l.length - s.1) (fun _ => []) (fun _ => [some ⟨cellsR rwAct l, 38, false⟩]) (fun _ => True) 0 [0,1,2,3,4,5,6,7,8] (0, ns0 b p np) rfl ⟨Nat.zero_le _, ns0_ok b p np h1 (by omega) h3 (by omega) hp h0 hnp, by simp [ns0], by simp [ns0], by simp [ns0]⟩ (jSb (by simp [jVb, jOb, jMb, mapL_cellsR, okL_cellsR, SSp, PM, ndB, rfB]) (by simp only [jSl, jOb, jMb, Nat.reduceAdd, Nat.reduceLT, SSp, PM, ndB, rfB] <;> exact jClo)) rfl ?_ ?_
  · intro s H
    refine WE.mono (fun x t' h' hq => ?_) (pb_all b p np l c hl hg s H)
    cases x with
    | n => exact hq
    | x j => exact hq
    | r => exact hq.elim
  · rintro _ -
    refine jq ?_
    refine jg ?_
    refine jo ?_
    refine je ?_
    refine WS.pret rfl ⟨.inr rfl, _, rfl, ?_⟩
    exact ⟨_, rfl, rfl⟩
theorem plays_empty (b p np : Nat) (c : Nat) (h1 : 1 ≤ b) (h2 : b ≤ 8) (h3 : 1 ≤ p) (h4 : p ≤ 8) (hp : (b : Int) * p = (np : Int)) (hnp : np ≤ 10000) :
    FM Try.prog 4 [.i .i64 b, .i .i64 p, .sl none 0 c false] [some ⟨cellsR rwAct [], 38, false⟩] (fun v _ => v = .b true) := by
  have AW := awake_fm
  have N := nnew_ok b p np h1 (by omega) h3 (by omega) hp hnp
  have R := rnew_ok b p np h1 (by omega) h3 (by omega) hp hnp
  refine FM.pbody (tb := tb) (fn := Try.f4) rfl rfl ?_
  simp only [argS, Nat.reduceAdd, List.length_cons, List.length_nil]
  refine jq ?_
  refine jg ?_
  refine jo ?_
  refine je ?_
  iterate 2 refine jq ?_
  refine jg ?_
  refine jc [] AW (by simp [jOb, ndM, rfM]) (by simp [jEb, jOb, jMb, mapL_cellsR, okL_cellsR, ndM, rfM]) ?_; rintro _ _ ⟨rfl, rfl⟩ -; simp only [jPg, jMb, ll, Nat.reduceAdd, Nat.reduceLT, Nat.zero_add, if_true, if_false, Nat.reduceSub, reduceIte, mapL_cellsR, Nat.lt_irrefl, Nat.not_lt_zero, Nat.zero_lt_succ, Nat.lt_add_one, ndM, rfM]
  refine jB false ?_
  refine je ?_
  refine WS.pcondF rfl rfl ?_
  refine WS.pskip rfl ?_
  refine jq ?_
  refine jg ?_
  iterate 2 refine jo ?_
  refine jc [] N (by simp [jOb, ndM, rfM]) (by simp [jEb, jOb, jMb, mapL_cellsR, okL_cellsR, ndM, rfM]) ?_; rintro _ _ ⟨rfl, rfl⟩ -; simp only [jPg, jMb, ll, Nat.reduceAdd, Nat.reduceLT, Nat.zero_add, if_true, if_false, Nat.reduceSub, reduceIte, mapL_cellsR, Nat.lt_irrefl, Nat.not_lt_zero, Nat.zero_lt_succ, Nat.lt_add_one, ndM, rfM]
  iterate 5 refine jo ?_
  refine je ?_
  iterate 2 refine jq ?_
  refine jg ?_
  refine jo ?_
  refine jDF ?_
  iterate 2 refine jo ?_
  refine jDF ?_
  iterate 3 refine jo ?_
  refine jDF ?_
  iterate 3 refine jo ?_
  refine jDF ?_
  refine jo ?_
  refine je ?_
  refine WS.pcondF rfl rfl ?_
  refine WS.pskip rfl ?_
  iterate 2 refine jq ?_
  refine jg ?_
  refine jo ?_
  refine jB false ?_
  iterate 2 refine jo ?_
  refine jB false ?_
  iterate 4 refine jo ?_
  refine jB false ?_
  iterate 3 refine jo ?_
  refine jDF ?_
  iterate 3 refine jo ?_
  refine jDF ?_
  refine jo ?_
  refine je ?_
  refine WS.pcondF rfl rfl ?_
  refine WS.pskip rfl ?_
  refine jq ?_
  refine jg ?_
  iterate 2 refine jo ?_
  refine jc [] R (by simp [jOb, ndM, rfM]) (by simp [jEb, jOb, jMb, mapL_cellsR, okL_cellsR, ndM, rfM]) ?_; rintro _ _ ⟨rfl, rfl⟩ -; simp only [jPg, jMb, ll, Nat.reduceAdd, Nat.reduceLT, Nat.zero_add, if_true, if_false, Nat.reduceSub, reduceIte, mapL_cellsR, Nat.lt_irrefl, Nat.not_lt_zero, Nat.zero_lt_succ, Nat.lt_add_one, ndM, rfM]
  refine jo ?_
  refine je ?_
  iterate 2 refine jq ?_
  refine jg ?_
  refine jo ?_
  refine je ?_
  refine WS.pblock rfl ?_
  refine WS.ploopI (σ := Unit) (τ := Unit) (fun _ => [(2, .sl none 0 c false), (10, .i .i64 0)]) (fun _ => [some ⟨cellsR rwAct [], 38, false⟩]) (fun _ => True) (fun _ => 0) (fun _ => []) (fun _ => [some ⟨cellsR rwAct [], 38, false⟩]) (fun _ => True) 0 [0] () rfl trivial (jSb (by simp [jVb, jOb, jMb, mapL_cellsR, okL_cellsR]) (by simp only [jSl, jOb, jMb, Nat.reduceAdd, Nat.reduceLT] <;> exact jClo)) rfl ?_ ?_
  · rintro ⟨⟩ -
    iterate 2 refine jq ?_
    refine jg ?_
    iterate 3 refine jo ?_
    refine jB false ?_
    refine je ?_
    refine WS.pcondF rfl rfl ?_
    refine WS.pout rfl rfl ?_
    exact ⟨rfl, (), trivial, (jSn [0] (by simp [jVb, jOb, jMb, mapL_cellsR, okL_cellsR]) (by simp only [jSl, jOb, jMb, Nat.reduceAdd, Nat.reduceLT] <;> exact jClo))⟩
  · rintro _ -
    refine jq ?_
    refine jg ?_
    refine jo ?_
    refine je ?_
    refine WS.pret rfl ⟨.inr rfl, _, rfl, ?_⟩
    exact ⟨_, rfl, rfl⟩
theorem plays_bad (z1 z2 : Int) (l : List Act) (a : Option (Nat × Nat)) (c : Nat) (h : z1 < 1 ∨ 64 < z1 ∨ z2 < 1 ∨ 32 < z2) : FM Try.prog 4 [.i .i64 z1, .i .i64 z2, .sl a l.length c false] [some ⟨cellsR rwAct l, 38, false⟩] (fun v _ => v = .b true) := by
  have AW := awake_fm
  have N := nnew_bad z1 z2 h
  refine FM.pbody (tb := tb) (fn := Try.f4) rfl rfl ?_
  simp only [argS, Nat.reduceAdd, List.length_cons, List.length_nil]
  focus
    refine jq ?_
    refine jg ?_
    refine jo ?_
    refine je ?_
    iterate 2 refine jq ?_
    refine jg ?_
    refine jc [] AW (by simp [jOb]) (by simp [jEb, jOb, jMb, mapL_cellsR, okL_cellsR]) ?_; rintro _ _ ⟨rfl, rfl⟩ -; simp only [jPg, jMb, ll, Nat.reduceAdd, Nat.reduceLT, Nat.zero_add, if_true, if_false, Nat.reduceSub, reduceIte, mapL_cellsR, Nat.lt_irrefl, Nat.not_lt_zero, Nat.zero_lt_succ, Nat.lt_add_one]
    refine jB false ?_
    refine je ?_
    refine WS.pcondF rfl rfl ?_
    refine WS.pskip rfl ?_
    refine jq ?_
    refine jg ?_
    iterate 2 refine jo ?_
    refine jc [] N (by simp [jOb]) (by simp [jEb, jOb, jMb, mapL_cellsR, okL_cellsR]) ?_; rintro _ _ ⟨rfl, rfl⟩ -; simp only [jPg, jMb, ll, Nat.reduceAdd, Nat.reduceLT, Nat.zero_add, if_true, if_false, Nat.reduceSub, reduceIte, mapL_cellsR, Nat.lt_irrefl, Nat.not_lt_zero, Nat.zero_lt_succ, Nat.lt_add_one]
    iterate 5 refine jo ?_
    refine je ?_
    iterate 2 refine jq ?_
    refine jg ?_
    refine jo ?_
    refine WS.poDS (tb := tb) rfl rfl rfl rfl rfl (fun hb__ => ?_) (fun hb__ => ?_)
    refine jo ?_
    iterate 2 refine jN ?_
    iterate 2 refine jo ?_
    iterate 2 refine jN ?_
    iterate 2 refine jo ?_
    iterate 2 refine jN ?_
    refine jo ?_
    refine je ?_
    refine WS.pcondT rfl rfl ?_
    refine jq ?_
    refine jg ?_
    refine jo ?_
    refine jB true ?_
    iterate 2 refine jo ?_
    refine jB true ?_
    iterate 2 refine jo ?_
    refine je ?_
    refine WS.pret rfl ⟨.inr rfl, _, rfl, ?_⟩
    rotate_left
    iterate 2 refine jo ?_
    refine WS.poDS (tb := tb) rfl rfl rfl rfl rfl (fun hb__ => ?_) (fun hb__ => ?_)
    iterate 2 refine jo ?_
    iterate 2 refine jN ?_
    iterate 2 refine jo ?_
    iterate 2 refine jN ?_
    refine jo ?_
    refine je ?_
    refine WS.pcondT rfl rfl ?_
    refine jq ?_
    refine jg ?_
    refine jo ?_
    refine jB true ?_
    iterate 2 refine jo ?_
    refine jB true ?_
    iterate 2 refine jo ?_
    refine je ?_
    refine WS.pret rfl ⟨.inr rfl, _, rfl, ?_⟩
    rotate_left
    iterate 3 refine jo ?_
    refine WS.poDS (tb := tb) rfl rfl rfl rfl rfl (fun hb__ => ?_) (fun hb__ => ?_)
    iterate 2 refine jo ?_
    iterate 2 refine jN ?_
    refine jo ?_
    refine je ?_
    refine WS.pcondT rfl rfl ?_
    refine jq ?_
    refine jg ?_
    refine jo ?_
    refine jB true ?_
    iterate 2 refine jo ?_
    refine jB true ?_
    iterate 2 refine jo ?_
    refine je ?_
    refine WS.pret rfl ⟨.inr rfl, _, rfl, ?_⟩
    rotate_left
    iterate 3 refine jo ?_
    refine jDT ?_
    refine jo ?_
    refine je ?_
    refine WS.pcondT rfl rfl ?_
    refine jq ?_
    refine jg ?_
    refine jo ?_
    refine jB true ?_
    iterate 2 refine jo ?_
    refine jB true ?_
    iterate 2 refine jo ?_
    refine je ?_
    refine WS.pret rfl ⟨.inr rfl, _, rfl, ?_⟩
    rotate_left
  all_goals exact ⟨_, rfl, rfl⟩
theorem plays_far (b p np : Nat) (l : List Act) (a : Option (Nat × Nat)) (c : Nat) (h1 : 1 ≤ b) (h2 : b ≤ 64) (h3 : 1 ≤ p) (h4 : p ≤ 32) (hp : (b : Int) * p = (np : Int)) (hnp : np ≤ 10000) (h : 40 < l.length ∨ 8 < b ∨ 8 < p) (hl : l.length ≤ 9223372036854775807) : FM Try.prog 4 [.i .i64 b, .i .i64 p, .sl a l.length c false] [some ⟨cellsR rwAct l, 38, false⟩] (fun v _ => v = .b true) := by
  have AW := awake_fm
  have N := nnew_ok b p np h1 (by omega) h3 (by omega) hp hnp
  refine FM.pbody (tb := tb) (fn := Try.f4) rfl rfl ?_
  simp only [argS, Nat.reduceAdd, List.length_cons, List.length_nil]
  focus
    refine jq ?_
    refine jg ?_
    refine jo ?_
    refine je ?_
    iterate 2 refine jq ?_
    refine jg ?_
    refine jc [] AW (by simp [jOb, ndM]) (by simp [jEb, jOb, jMb, mapL_cellsR, okL_cellsR, ndM]) ?_; rintro _ _ ⟨rfl, rfl⟩ -; simp only [jPg, jMb, ll, Nat.reduceAdd, Nat.reduceLT, Nat.zero_add, if_true, if_false, Nat.reduceSub, reduceIte, mapL_cellsR, Nat.lt_irrefl, Nat.not_lt_zero, Nat.zero_lt_succ, Nat.lt_add_one, ndM]
    refine jB false ?_
    refine je ?_
    refine WS.pcondF rfl rfl ?_
    refine WS.pskip rfl ?_
    refine jq ?_
    refine jg ?_
    iterate 2 refine jo ?_
    refine jc [] N (by simp [jOb, ndM]) (by simp [jEb, jOb, jMb, mapL_cellsR, okL_cellsR, ndM]) ?_; rintro _ _ ⟨rfl, rfl⟩ -; simp only [jPg, jMb, ll, Nat.reduceAdd, Nat.reduceLT, Nat.zero_add, if_true, if_false, Nat.reduceSub, reduceIte, mapL_cellsR, Nat.lt_irrefl, Nat.not_lt_zero, Nat.zero_lt_succ, Nat.lt_add_one, ndM]
    iterate 5 refine jo ?_
    refine je ?_
    iterate 2 refine jq ?_
    refine jg ?_
    refine jo ?_
    refine jDF ?_
    iterate 2 refine jo ?_
    refine jDF ?_
    iterate 3 refine jo ?_
    refine jDF ?_
    iterate 3 refine jo ?_
    refine jDF ?_
    refine jo ?_
    refine je ?_
    refine WS.pcondF rfl rfl ?_
    refine WS.pskip rfl ?_
    iterate 2 refine jq ?_
    refine jg ?_
    refine jo ?_
    refine jB false ?_
    iterate 2 refine jo ?_
    refine jB false ?_
    iterate 4 refine jo ?_
    refine WS.poDS (tb := tb) rfl rfl rfl rfl rfl (fun hb__ => ?_) (fun hb__ => ?_)
    iterate 2 refine jo ?_
    iterate 2 refine jN ?_
    iterate 2 refine jo ?_
    iterate 2 refine jN ?_
    refine jo ?_
    refine je ?_
    refine WS.pcondT rfl rfl ?_
    refine jq ?_
    refine jg ?_
    refine jo ?_
    refine jB true ?_
    refine jo ?_
    refine je ?_
    refine WS.pret rfl ⟨.inr rfl, _, rfl, ?_⟩
    rotate_left
    iterate 3 refine jo ?_
    refine WS.poDS (tb := tb) rfl rfl rfl rfl rfl (fun hb__ => ?_) (fun hb__ => ?_)
    iterate 2 refine jo ?_
    iterate 2 refine jN ?_
    refine jo ?_
    refine je ?_
    refine WS.pcondT rfl rfl ?_
    refine jq ?_
    refine jg ?_
    refine jo ?_
    refine jB true ?_
    refine jo ?_
    refine je ?_
    refine WS.pret rfl ⟨.inr rfl, _, rfl, ?_⟩
    rotate_left
    iterate 3 refine jo ?_
    refine jDT ?_
    refine jo ?_
    refine je ?_
    refine WS.pcondT rfl rfl ?_
    refine jq ?_
    refine jg ?_
    refine jo ?_
    refine jB true ?_
    refine jo ?_
    refine je ?_
    refine WS.pret rfl ⟨.inr rfl, _, rfl, ?_⟩
    rotate_left
  all_goals exact ⟨_, rfl, rfl⟩
theorem plays_calls (z1 z2 : Int) (a : Option Addr) (c : Nat) (l : List Act) (W : World) (_ : (Lit.int .i64 z1).wf = true) (_ : (Lit.int .i64 z2).wf = true) (hr : RowIn W a (cellsR rwAct l)) (hc : l.length ≤ c) (hm' : l.length ≤ maxLen) (hg : ∀ y ∈ l, (Lit.int .i64 y.op).wf = true ∧ (Lit.int .i64 y.a).wf = true ∧ (Lit.int .i64 y.short).wf = true ∧ (Lit.int .u8 y.fill).wf = true) :
    Calls Try.prog 4 #[.int .i64 z1, .int .i64 z2, .slice a l.length c] W (fun e w' => e = .returned (.bool true) ∧ Go.RowKit.Below W.heap.size W w') := by
  have hm : l.length ≤ 9223372036854775807 := Nat.le_trans hm' (by decide)
  have key : FM Try.prog 4 [.i .i64 z1, .i .i64 z2, .sl (argA a 0) l.length c false] [some ⟨cellsR rwAct l, 38, false⟩] (fun v _ => v = .b true) := by
    by_cases h : z1 < 1 ∨ 64 < z1 ∨ z2 < 1 ∨ 32 < z2
    · exact plays_bad z1 z2 l _ c h
    · obtain ⟨b, rfl⟩ : ∃ n : Nat, z1 = n := ⟨z1.toNat, by omega⟩
      obtain ⟨p, rfl⟩ : ∃ n : Nat, z2 = n := ⟨z2.toNat, by omega⟩
      have hle : b * p ≤ 64 * 32 := Nat.mul_le_mul (by omega) (by omega)
      have hge : 1 * 1 ≤ b * p := Nat.mul_le_mul (by omega) (by omega)
      have hp : (b : Int) * p = ((b * p : Nat) : Int) := by push_cast; rfl
      by_cases h2 : 40 < l.length ∨ 8 < b ∨ 8 < p
      · exact plays_far b p (b * p) l _ c (by omega) (by omega) (by omega) (by omega) hp (by omega) h2 hm
      · rcases argA_or a 0 with ha | ha
        · have h0 : ¬ 0 < l.length := fun h3 => by rw [argA_some hr (by rw [Act_len]; omega) 0] at ha; cases ha
          obtain rfl : l = [] := List.length_eq_zero_iff.1 (by omega)
          rw [ha]
          exact plays_empty b p (b * p) c (by omega) (by omega) (by omega) (by omega) hp (by omega)
        · rw [ha]
          exact plays_main b p (b * p) l c (by omega) (by omega) (by omega) (by omega) hp (by omega) (by omega) (by omega) hg
  have := FM.topR [(a, cellsR rwAct l, 38)] key ⟨trivial, trivial, by cases a <;> simp [argA, okV], trivial⟩ W (fun x hx => by
    rcases List.mem_singleton.1 hx with rfl
    exact ⟨hr, okL_cellsR 0 rwAct l⟩)
  simp only [conL, con_argA [(a, cellsR rwAct l, 38)] 0 (a, cellsR rwAct l, 38) rfl] at this
  exact this
end Go.Proofs.Ytmkolibmadbenaa.Am

