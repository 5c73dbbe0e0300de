/- Functions of the tree and of the law TreePlays, walked. Conditions: those of each theorem. -/
import Derived.Test.YtpogfelbimcglaaTr2
namespace Go.Proofs.Ytpogfelbimcglaa.Am
open Go.Proofs
set_option maxRecDepth 1000000
set_option maxHeartbeats 4000000
set_option linter.unusedSimpArgs false
set_option linter.unusedVariables false
theorem left_walk (ps : List Pl) (fr lv root len : Int) (id up : Nat) (L l r : Tr) (a b c a2 b2 c2 : Int) (hT : Rep ps (.nd id L a b c (.nd up l a2 b2 c2 r))) (hd : (Tr.nd id L a b c (.nd up l a2 b2 c2 r)).ids.Nodup) (hz : Zero ps) (hm : ps.length ≤ 600) (hh : (Tr.nd id L a b c (.nd up l a2 b2 c2 r)).ht ≤ 900) :
  FM Try.prog 44 [.p (some (2,0)), .i .u32 id] (trM ps fr lv root len) (fun v M' => v = .i .u32 up ∧ ∃ ps', M' = trM ps' fr lv root len ∧ Post ps ps' [id, up] (.nd up (.nd id L a b c l) a2 b2 c2 r)) := by
  obtain ⟨h0, ⟨nx, hp⟩, hL, ⟨h02, ⟨nx2, hp2⟩, hl, hr⟩⟩ := hT
  simp only [ids_nd, List.nodup_append, List.nodup_cons, List.mem_append, List.mem_cons, not_or, ne_eq] at hd
  obtain ⟨dL, ⟨⟨hil, hne, hir⟩, dl, ⟨dur, dr⟩, d3⟩, d5⟩ := hd
  have huL : up ∉ L.ids := fun e => (d5 up e up (by simp)) rfl
  have hiL : id ∉ L.ids := fun e => (d5 id e id (by simp)) rfl
  have hul : up ∉ l.ids := fun e => (d3 up e up (by simp)) rfl
  simp only [Tr.ht] at hh
  simp only [Tr.id] at hp
  have G1 := tget_nd ps fr lv root len id _ hp rfl hm
  have G2 := tget_nd ps fr lv root len up _ hp2 rfl hm
  have P1 := tput_walk ps fr lv root len id _ L l (1 + ((max L.ht (Tr.nd up l a2 b2 c2 r).ht : Nat) : Int)) a b c hp rfl hL hl hz hm (by omega) (by omega)
  have S1 := rep_set (a := a) (b := b) (c := c) hp h0 hL hl hiL hil _ rfl
  generalize hps1 : ps.set id ⟨true, (⟨true, nx, L.id, up, (1 + ((max L.ht (Tr.nd up l a2 b2 c2 r).ht : Nat) : Int)), a, b, c⟩ : Pl).next, L.id, l.id, (1 + ((max L.ht l.ht : Nat) : Int)), a, b, c⟩ = ps1 at P1 S1
  have hp21 : ps1[up]? = some ⟨true, nx2, l.id, r.id, (1 + ((max l.ht r.ht : Nat) : Int)), a2, b2, c2⟩ := by rw [← hps1, set_other hne, hp2]
  have hr1 : Rep ps1 r := by rw [← hps1]; exact rep_keep hr hir
  have hz1 : Zero ps1 := by rw [← hps1]; exact zero_set h0 hz
  have hlen1 : ps1.length = ps.length := by rw [← hps1]; simp
  have P2 := tput_walk ps1 fr lv root len up _ (.nd id L a b c l) r (1 + ((max l.ht r.ht : Nat) : Int)) a2 b2 c2 hp21 rfl S1 hr1 hz1 (by omega) (by simp only [Tr.ht]; omega) (by omega)
  have S2 := rep_set (a := a2) (b := b2) (c := c2) hp21 h02 S1 hr1 (by simp [ids_nd, huL, hul, Ne.symm hne]) dur _ rfl
  have F1 : Fr ps ps1 [id, up] := by rw [← hps1]; refine Fr.mono (I := [id]) (Fr.set hp _ ?_) (by simp); rfl
  have F2 := (Fr.set hp21 ⟨true, nx2, id, r.id, (1 + ((max (Tr.nd id L a b c l).ht r.ht : Nat) : Int)), a2, b2, c2⟩ rfl).mono (J := [id, up]) (by simp)
  refine FM.pbodyV (tb := tb) (fn := Try.f44) rfl rfl ?_
  simp only [argS, Nat.reduceAdd, trM, arM, List.length_cons, List.length_nil, List.cons_append, List.nil_append]
  refine jq ?_
  refine jg ?_
  refine jo ?_
  refine je ?_
  refine jq ?_
  refine jg ?_
  iterate 2 refine jo ?_
  refine jc [0,1,2] G1 (by simp [jOb, trR, arR, trM, arM, Tr.id]) (by simp [jEb, jOb, jMb, mapL_cellsR, okL_cellsR, trR, arR, trM, arM, Tr.id]) ?_; rintro _ _ ⟨rfl, rfl⟩ -; simp only [jPg, jMb, ll, Nat.reduceAdd, Nat.reduceLT, Nat.zero_add, if_true, if_false, Nat.reduceSub, reduceIte, mapL_cellsR, Nat.lt_irrefl, Nat.not_lt_zero, Nat.zero_lt_succ, Nat.lt_add_one, trR, arR, trM, arM, Tr.id]
  refine jn ?_
  refine js ?_
  refine je ?_
  refine jq ?_
  refine jg ?_
  refine jP ?_
  iterate 2 refine jo ?_
  refine je ?_
  refine jq ?_
  refine jg ?_
  iterate 2 refine jo ?_
  refine jc [0,1,2] G2 (by simp [jOb, trR, arR, trM, arM, Tr.id]) (by simp [jEb, jOb, jMb, mapL_cellsR, okL_cellsR, trR, arR, trM, arM, Tr.id]) ?_; rintro _ _ ⟨rfl, rfl⟩ -; simp only [jPg, jMb, ll, Nat.reduceAdd, Nat.reduceLT, Nat.zero_add, if_true, if_false, Nat.reduceSub, reduceIte, mapL_cellsR, Nat.lt_irrefl, Nat.not_lt_zero, Nat.zero_lt_succ, Nat.lt_add_one, trR, arR, trM, arM, Tr.id]
  refine jn ?_
  refine js ?_
  refine je ?_
  refine jq ?_
  refine jg ?_
  refine jP ?_
  refine jo ?_
  refine jP ?_
  refine js ?_
  refine je ?_
  refine jq ?_
  refine jg ?_
  iterate 2 refine jo ?_
  refine WS.poA (tb := tb) rfl rfl rfl rfl rfl (by simp only [List.drop_zero, List.drop_succ_cons, List.take_succ_cons, List.take_zero, rwPl]; exact rfl) ?_
  refine jc [0,1,2] P1 (by simp [jOb, trR, arR, trM, arM, Tr.id]) (by simp [jEb, jOb, jMb, mapL_cellsR, okL_cellsR, trR, arR, trM, arM, Tr.id]) ?_; rintro _ _ ⟨rfl, rfl⟩ -; simp only [jPg, jMb, ll, Nat.reduceAdd, Nat.reduceLT, Nat.zero_add, if_true, if_false, Nat.reduceSub, reduceIte, mapL_cellsR, Nat.lt_irrefl, Nat.not_lt_zero, Nat.zero_lt_succ, Nat.lt_add_one, trR, arR, trM, arM, Tr.id]
  refine jP ?_
  refine js ?_
  refine je ?_
  refine jq ?_
  refine jg ?_
  iterate 2 refine jo ?_
  refine WS.poA (tb := tb) rfl rfl rfl rfl rfl (by simp only [List.drop_zero, List.drop_succ_cons, List.take_succ_cons, List.take_zero, rwPl]; exact rfl) ?_
  refine jc [0,1,2] P2 (by simp [jOb, trR, arR, trM, arM, Tr.id]) (by simp [jEb, jOb, jMb, mapL_cellsR, okL_cellsR, trR, arR, trM, arM, Tr.id]) ?_; rintro _ _ ⟨rfl, rfl⟩ -; simp only [jPg, jMb, ll, Nat.reduceAdd, Nat.reduceLT, Nat.zero_add, if_true, if_false, Nat.reduceSub, reduceIte, mapL_cellsR, Nat.lt_irrefl, Nat.not_lt_zero, Nat.zero_lt_succ, Nat.lt_add_one, trR, arR, trM, arM, Tr.id]
  refine jo ?_
  refine je ?_
  refine WS.pret rfl ⟨.inr rfl, _, rfl, ?_⟩
  exact ⟨_, rfl, [0,1,2], trM (ps1.set up ⟨true, nx2, id, r.id, (1 + ((max (Tr.nd id L a b c l).ht r.ht : Nat) : Int)), a2, b2, c2⟩) fr lv root len, .i .u32 up, ⟨rfl, rfl, (by simp [jVb, jOb, jMb, mapL_cellsR, okL_cellsR, trM, arM, List.length_set, Tr.id]), rfl⟩, rfl, trivial, rfl, _, rfl, S2, F1.trans F2⟩
end Go.Proofs.Ytpogfelbimcglaa.Am

