/- Functions of the tree and of the law TreePlays, walked. Conditions: those of each theorem. -/
import Derived.Test.YtpogfelbimcglaaTr1
namespace Go.Proofs.Ytpogfelbimcglaa.Am
open Go.Proofs
set_option maxRecDepth 1000000
set_option maxHeartbeats 4000000
set_option linter.unusedSimpArgs false
set_option linter.unusedVariables false
/-- What a call leaves: the branch, in its own places. -/
def Post (ps ps' : List Pl) (I : List Nat) (T : Tr) : Prop := Rep ps' T ∧ Fr ps ps' I
theorem set_other {ps : List Pl} {i j : Nat} {p : Pl} (h : i ≠ j) : (ps.set i p)[j]? = ps[j]? := List.getElem?_set_ne h
theorem set_same {ps : List Pl} {i : Nat} {p q : Pl} (h : ps[i]? = some q) : (ps.set i p)[i]? = some p := List.getElem?_set_self (List.getElem?_eq_some_iff.1 h).1
/-- A node that is set over two branches that stand. -/
theorem rep_set {ps : List Pl} {id : Nat} {p : Pl} {L R : Tr} {a b c : Int} (h : ps[id]? = some p) (h0 : 0 < id) (hL : Rep ps L) (hR : Rep ps R) (dL : id ∉ L.ids) (dR : id ∉ R.ids) (x : Pl) (hx : x = ⟨true, p.next, L.id, R.id, (1 + ((max L.ht R.ht : Nat) : Int)), a, b, c⟩) :
    Rep (ps.set id x) (.nd id L a b c R) := by
  subst hx
  refine ⟨h0, ⟨p.next, set_same h⟩, hL.frame fun j hj => set_other fun e => dL (e ▸ hj), hR.frame fun j hj => set_other fun e => dR (e ▸ hj)⟩
theorem rep_keep {ps : List Pl} {id : Nat} {x : Pl} {T : Tr} (h : Rep ps T) (d : id ∉ T.ids) : Rep (ps.set id x) T := h.frame fun j hj => set_other fun e => d (e ▸ hj)
theorem zero_set {ps : List Pl} {id : Nat} {x : Pl} (h0 : 0 < id) (h : Zero ps) : Zero (ps.set id x) := fun p hp => h p (by rw [set_other (by omega)] at hp; exact hp)
theorem right_walk (ps : List Pl) (fr lv root len : Int) (id up : Nat) (l r R : Tr) (a b c a2 b2 c2 : Int) (hT : Rep ps (.nd id (.nd up l a2 b2 c2 r) a b c R)) (hd : (Tr.nd id (.nd up l a2 b2 c2 r) a b c R).ids.Nodup) (hz : Zero ps) (hm : ps.length ≤ 600) (hh : (Tr.nd id (.nd up l a2 b2 c2 r) a b c R).ht ≤ 900) :
  FM Try.prog 45 [.p (some (2,0)), .i .u32 id] (trM ps fr lv root len) (fun v M' => v = .i .u32 up ∧ ∃ ps', M' = trM ps' fr lv root len ∧ Post ps ps' [id, up] (.nd up l a2 b2 c2 (.nd id r a b c R))) := by
  obtain ⟨h0, ⟨nx, hp⟩, ⟨h02, ⟨nx2, hp2⟩, hl, hr⟩, hR⟩ := hT
  simp only [ids_nd, List.nodup_append, List.nodup_cons, List.mem_append, List.mem_cons, not_or, ne_eq] at hd
  obtain ⟨⟨dl, ⟨dur, dr⟩, d3⟩, ⟨dR, d4⟩, d5⟩ := hd
  have hne : up ≠ id := fun e => (d5 up (by simp) id (by simp)) e
  have hir : id ∉ r.ids := fun e => (d5 id (by simp [e]) id (by simp)) rfl
  have hil : id ∉ l.ids := fun e => (d5 id (by simp [e]) id (by simp)) rfl
  have hul : up ∉ l.ids := fun e => (d3 up e up (by simp)) rfl
  have huR : up ∉ R.ids := fun e => (d5 up (by simp) up (by simp [e])) rfl
  simp only [Tr.ht] at hh
  simp only [Tr.id] at hp
  have G1 := tget_nd ps fr lv root len id _ hp rfl hm
  have G2 := tget_nd ps fr lv root len up _ hp2 rfl hm
  have P1 := tput_walk ps fr lv root len id _ r R (1 + ((max (Tr.nd up l a2 b2 c2 r).ht R.ht : Nat) : Int)) a b c hp rfl hr hR hz hm (by omega) (by omega)
  have S1 := rep_set (a := a) (b := b) (c := c) hp h0 hr hR hir dR _ rfl
  generalize hps1 : ps.set id ⟨true, (⟨true, nx, up, R.id, (1 + ((max (Tr.nd up l a2 b2 c2 r).ht R.ht : Nat) : Int)), a, b, c⟩ : Pl).next, r.id, R.id, (1 + ((max r.ht R.ht : Nat) : Int)), a, b, c⟩ = ps1 at P1 S1
  have hp21 : ps1[up]? = some ⟨true, nx2, l.id, r.id, (1 + ((max l.ht r.ht : Nat) : Int)), a2, b2, c2⟩ := by rw [← hps1, set_other (Ne.symm hne), hp2]
  have hl1 : Rep ps1 l := by rw [← hps1]; exact rep_keep hl hil
  have hz1 : Zero ps1 := by rw [← hps1]; exact zero_set h0 hz
  have hlen1 : ps1.length = ps.length := by rw [← hps1]; simp
  have P2 := tput_walk ps1 fr lv root len up _ l (.nd id r a b c R) (1 + ((max l.ht r.ht : Nat) : Int)) a2 b2 c2 hp21 rfl hl1 S1 hz1 (by omega) (by omega) (by simp only [Tr.ht]; omega)
  have S2 := rep_set (a := a2) (b := b2) (c := c2) hp21 h02 hl1 S1 hul (by simp [ids_nd, dur, huR, hne]) _ rfl
  have F1 : Fr ps ps1 [id, up] := by rw [← hps1]; refine Fr.mono (I := [id]) (Fr.set hp _ ?_) (by simp); rfl
  have F2 := (Fr.set hp21 ⟨true, nx2, l.id, id, (1 + ((max l.ht (Tr.nd id r a b c R).ht : Nat) : Int)), a2, b2, c2⟩ rfl).mono (J := [id, up]) (by simp)
  refine FM.pbodyV (tb := tb) (fn := Try.f45) rfl rfl ?_
  simp only [argS, Nat.reduceAdd, trM, arM, List.length_cons, List.length_nil, List.cons_append, List.nil_append]
  refine jq ?_
  refine jg ?_
  refine jo ?_
  refine je ?_
  refine jq ?_
  refine jg ?_
  iterate 2 refine jo ?_
  refine jc [0,1,2] G1 (by simp [jOb, trR, arR, trM, arM, Tr.id]) (by simp [jEb, jOb, jMb, mapL_cellsR, okL_cellsR, trR, arR, trM, arM, Tr.id]) ?_; rintro _ _ ⟨rfl, rfl⟩ -; simp only [jPg, jMb, ll, Nat.reduceAdd, Nat.reduceLT, Nat.zero_add, if_true, if_false, Nat.reduceSub, reduceIte, mapL_cellsR, Nat.lt_irrefl, Nat.not_lt_zero, Nat.zero_lt_succ, Nat.lt_add_one, trR, arR, trM, arM, Tr.id]
  refine jn ?_
  refine js ?_
  refine je ?_
  refine jq ?_
  refine jg ?_
  refine jP ?_
  iterate 2 refine jo ?_
  refine je ?_
  refine jq ?_
  refine jg ?_
  iterate 2 refine jo ?_
  refine jc [0,1,2] G2 (by simp [jOb, trR, arR, trM, arM, Tr.id]) (by simp [jEb, jOb, jMb, mapL_cellsR, okL_cellsR, trR, arR, trM, arM, Tr.id]) ?_; rintro _ _ ⟨rfl, rfl⟩ -; simp only [jPg, jMb, ll, Nat.reduceAdd, Nat.reduceLT, Nat.zero_add, if_true, if_false, Nat.reduceSub, reduceIte, mapL_cellsR, Nat.lt_irrefl, Nat.not_lt_zero, Nat.zero_lt_succ, Nat.lt_add_one, trR, arR, trM, arM, Tr.id]
  refine jn ?_
  refine js ?_
  refine je ?_
  refine jq ?_
  refine jg ?_
  refine jP ?_
  refine jo ?_
  refine jP ?_
  refine js ?_
  refine je ?_
  refine jq ?_
  refine jg ?_
  iterate 2 refine jo ?_
  refine WS.poA (tb := tb) rfl rfl rfl rfl rfl (by simp only [List.drop_zero, List.drop_succ_cons, List.take_succ_cons, List.take_zero, rwPl]; exact rfl) ?_
  refine jc [0,1,2] P1 (by simp [jOb, trR, arR, trM, arM, Tr.id]) (by simp [jEb, jOb, jMb, mapL_cellsR, okL_cellsR, trR, arR, trM, arM, Tr.id]) ?_; rintro _ _ ⟨rfl, rfl⟩ -; simp only [jPg, jMb, ll, Nat.reduceAdd, Nat.reduceLT, Nat.zero_add, if_true, if_false, Nat.reduceSub, reduceIte, mapL_cellsR, Nat.lt_irrefl, Nat.not_lt_zero, Nat.zero_lt_succ, Nat.lt_add_one, trR, arR, trM, arM, Tr.id]
  refine jP ?_
  refine js ?_
  refine je ?_
  refine jq ?_
  refine jg ?_
  iterate 2 refine jo ?_
  refine WS.poA (tb := tb) rfl rfl rfl rfl rfl (by simp only [List.drop_zero, List.drop_succ_cons, List.take_succ_cons, List.take_zero, rwPl]; exact rfl) ?_
  refine jc [0,1,2] P2 (by simp [jOb, trR, arR, trM, arM, Tr.id]) (by simp [jEb, jOb, jMb, mapL_cellsR, okL_cellsR, trR, arR, trM, arM, Tr.id]) ?_; rintro _ _ ⟨rfl, rfl⟩ -; simp only [jPg, jMb, ll, Nat.reduceAdd, Nat.reduceLT, Nat.zero_add, if_true, if_false, Nat.reduceSub, reduceIte, mapL_cellsR, Nat.lt_irrefl, Nat.not_lt_zero, Nat.zero_lt_succ, Nat.lt_add_one, trR, arR, trM, arM, Tr.id]
  refine jo ?_
  refine je ?_
  refine WS.pret rfl ⟨.inr rfl, _, rfl, ?_⟩
  exact ⟨_, rfl, [0,1,2], trM (ps1.set up ⟨true, nx2, l.id, id, (1 + ((max l.ht (Tr.nd id r a b c R).ht : Nat) : Int)), a2, b2, c2⟩) fr lv root len, .i .u32 up, ⟨rfl, rfl, (by simp [jVb, jOb, jMb, mapL_cellsR, okL_cellsR, trM, arM, List.length_set, Tr.id]), rfl⟩, rfl, trivial, rfl, _, rfl, S2, F1.trans F2⟩
end Go.Proofs.Ytpogfelbimcglaa.Am

