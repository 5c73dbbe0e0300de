/- Functions of the tree and of the law TreePlays, walked. Conditions: those of each theorem. -/
import Derived.Test.YtpogfelbimcglaaTr5
namespace Go.Proofs.Ytpogfelbimcglaa.Am
open Go.Proofs
set_option maxRecDepth 1000000
set_option maxHeartbeats 4000000
set_option linter.unusedSimpArgs false
set_option linter.unusedVariables false
theorem balance_walk (ps : List Pl) (fr lv root len : Int) (id : Nat) (p : Pl) (L R : Tr) (h9 a b c : Int) (hp : ps[id]? = some p) (hlv : p.live = true) (h0 : 0 < id) (hL : Rep ps L) (hR : Rep ps R) (hd : (L.ids ++ id :: R.ids).Nodup) (hz : Zero ps) (hm : ps.length ≤ 600) (bL : L.ht ≤ 800) (bR : R.ht ≤ 800) :
  FM Try.prog 40 [.p (some (2,0)), .i .u32 id, .agg [.i .u32 L.id, .i .u32 R.id, .i .i64 h9, .i .i64 a, .i .i64 b, .i .i64 c]] (trM ps fr lv root len)
    (fun v M' => v = .i .u32 (bal id L a b c R).id ∧ ∃ ps', M' = trM ps' fr lv root len ∧ Post ps ps' (L.ids ++ id :: R.ids) (bal id L a b c R)) := by
  unfold bal
  by_cases c1 : R.ht + 1 < L.ht
  · rw [if_pos c1]
    cases L with
    | lf => simp [Tr.ht] at c1
    | nd i1 l1 x y z r1 =>
      by_cases c2 : (Tr.nd i1 l1 x y z r1).lft.ht < (Tr.nd i1 l1 x y z r1).rgt.ht
      · rw [if_pos c2]; simp only [Tr.lft, Tr.rgt] at c2
        cases r1 with
        | lf => simp [Tr.ht] at c2
        | nd i2 l2 x2 y2 z2 r2 => exact bal_r2 ps fr lv root len id p i1 x y z l1 i2 l2 r2 x2 y2 z2 R h9 a b c hp hlv h0 hL hR hd hz hm bL bR c1 c2
      · rw [if_neg c2]; simp only [Tr.lft, Tr.rgt] at c2
        exact bal_r1 ps fr lv root len id p i1 l1 r1 x y z R h9 a b c hp hlv h0 hL hR hd hz hm bL bR c1 c2
  · rw [if_neg c1]
    by_cases c3 : L.ht + 1 < R.ht
    · rw [if_pos c3]
      cases R with
      | lf => simp [Tr.ht] at c3
      | nd i1 l1 x y z r1 =>
        by_cases c2 : (Tr.nd i1 l1 x y z r1).rgt.ht < (Tr.nd i1 l1 x y z r1).lft.ht
        · rw [if_pos c2]; simp only [Tr.lft, Tr.rgt] at c2
          cases l1 with
          | lf => simp [Tr.ht] at c2
          | nd i2 l2 x2 y2 z2 r2 => exact bal_l2 ps fr lv root len id p i1 x y z r1 i2 l2 r2 x2 y2 z2 L h9 a b c hp hlv h0 hL hR hd hz hm bL bR c3 c2
        · rw [if_neg c2]; simp only [Tr.lft, Tr.rgt] at c2
          exact bal_l1 ps fr lv root len id p i1 x y z l1 r1 L h9 a b c hp hlv h0 hL hR hd hz hm bL bR c3 c2
    · rw [if_neg c3]
      exact bal_plain ps fr lv root len id p L R h9 a b c hp hlv h0 hL hR hd hz hm bL bR c1 c3
theorem ins_mem (k : Nat) (a b c : Int) : ∀ T : Tr, ∀ j, j ∈ (ins k a b c T).ids ↔ j = k ∨ j ∈ T.ids
  | .lf, j => by simp [ins, ids_nd, ids_lf]
  | .nd id l x y z r, j => by
    simp only [ins]; split
    · rw [bal_ids]; simp only [ids_nd, List.mem_append, List.mem_cons, ins_mem k a b c l j, or_assoc]
    · rw [bal_ids]; simp only [ids_nd, List.mem_append, List.mem_cons, ins_mem k a b c r j]
      constructor <;> (intro h; rcases h with h | h | h | h <;> simp [h])
theorem ins_nodup (k : Nat) (a b c : Int) : ∀ T : Tr, T.ids.Nodup → k ∉ T.ids → (ins k a b c T).ids.Nodup
  | .lf, _, _ => by simp [ins, ids_nd, ids_lf]
  | .nd id l x y z r, h, hk => by
    simp only [ids_nd, List.nodup_append, List.nodup_cons, List.mem_append, List.mem_cons, not_or, ne_eq] at h hk
    obtain ⟨h1, ⟨h2, h3⟩, h4⟩ := h
    simp only [ins]; split
    · rw [bal_ids]; simp only [List.nodup_append, List.nodup_cons, List.mem_cons, ne_eq]
      refine ⟨ins_nodup k a b c l h1 hk.1, ⟨h2, h3⟩, fun q hq q2 hq2 => ?_⟩
      rcases (ins_mem k a b c l q).1 hq with rfl | hq
      · rcases hq2 with rfl | hq2
        · exact hk.2.1
        · intro e; subst e; exact hk.2.2 hq2
      · exact h4 q hq q2 hq2
    · rw [bal_ids]; simp only [List.nodup_append, List.nodup_cons, List.mem_cons, ne_eq]
      refine ⟨h1, ⟨fun e => ?_, ins_nodup k a b c r h3 hk.2.2⟩, fun q hq q2 hq2 => ?_⟩
      · rcases (ins_mem k a b c r id).1 e with e | e
        · exact hk.2.1 e.symm
        · exact h2 e
      · rcases hq2 with rfl | hq2
        · exact h4 q hq _ (.inl rfl)
        · rcases (ins_mem k a b c r q2).1 hq2 with rfl | hq2
          · intro e; subst e; exact hk.1 hq
          · exact h4 q hq q2 (.inr hq2)
theorem insert_walk (fr lv root len : Int) (k : Nat) (a b c : Int) : ∀ (T : Tr) (ps : List Pl) (nk : Int), Rep ps T → (∀ j, j ∈ T.ids → j < 600) → T.ids.Nodup → k ∉ T.ids → Zero ps → ps.length ≤ 600 → T.ht ≤ 700 → 0 < k → ps[k]? = some ⟨true, nk, 0, 0, 1, a, b, c⟩ →
  FM Try.prog 29 [.p (some (2,0)), .i .u32 T.id, .i .u32 k, .i .i64 a] (trM ps fr lv root len)
    (fun v M' => v = .i .u32 (ins k a b c T).id ∧ ∃ ps', M' = trM ps' fr lv root len ∧ Post ps ps' (k :: T.ids) (ins k a b c T)) := by
  intro T
  induction T with
  | lf =>
    intro ps nk hT _ hd hk hz hm bT h0 hpk
    have S : Post ps ps [k] (ins k a b c .lf) := ⟨⟨h0, ⟨nk, by simpa [Tr.id, Tr.ht] using hpk⟩, trivial, trivial⟩, Fr.refl _ _⟩
    refine FM.pbodyV (tb := tb) (fn := Try.f29) rfl rfl ?_
    simp only [argS, Nat.reduceAdd, trM, arM, List.length_cons, List.length_nil, List.cons_append, List.nil_append, Tr.id]
    refine jq ?_
    refine jg ?_
    refine jo ?_
    refine je ?_
    iterate 2 refine jq ?_
    refine jg ?_
    refine jo ?_
    refine jB true ?_
    refine je ?_
    refine WS.pcondT rfl rfl ?_
    refine jq ?_
    refine jg ?_
    iterate 2 refine jo ?_
    refine je ?_
    refine WS.pret rfl ⟨.inr rfl, _, rfl, ?_⟩
    exact ⟨_, rfl, [0,1,2], trM ps fr lv root len, .i .u32 k, ⟨rfl, rfl, (by simp [jVb, jOb, jMb, mapL_cellsR, okL_cellsR, trM, arM]), rfl⟩, rfl, trivial, rfl, _, rfl, S⟩
  | nd id l x y z r ihl ihr =>
    intro ps nk hT hb hd hk hz hm bT h0 hpk
    have hT' := hT
    obtain ⟨hi0, ⟨nx, hp⟩, hl, hr⟩ := hT
    have hk' := hk
    simp only [ids_nd, List.mem_append, List.mem_cons, not_or] at hk
    have hd' := hd
    simp only [ids_nd, List.nodup_append, List.nodup_cons, List.mem_cons, ne_eq] at hd'
    obtain ⟨dl, ⟨dir, dr⟩, d5⟩ := hd'
    have dil : id ∉ l.ids := fun e => (d5 id e id (by simp)) rfl
    have bT' := bT
    simp only [Tr.ht] at bT
    have bid : id < 600 := hb id (by simp [ids_nd])
    have G1 := tget_nd ps fr lv root len id _ hp rfl hm
    by_cases hx : a < x
    · have I := ihl ps nk hl (fun j hj => hb j (by simp [ids_nd, hj])) dl hk.1 hz hm (by omega) h0 hpk
      have e : ins k a b c (.nd id l x y z r) = bal id (ins k a b c l) x y z r := by simp only [ins, if_pos hx]
      rw [e]
      refine FM.pbodyV (tb := tb) (fn := Try.f29) rfl rfl ?_
      simp only [argS, Nat.reduceAdd, trM, arM, List.length_cons, List.length_nil, List.cons_append, List.nil_append, Tr.id]
      refine jq ?_
      refine jg ?_
      refine jo ?_
      refine je ?_
      iterate 2 refine jq ?_
      refine jg ?_
      refine jo ?_
      refine jDF ?_
      refine je ?_
      refine WS.pcondF rfl rfl ?_
      refine WS.pskip rfl ?_
      refine jq ?_
      refine jg ?_
      iterate 2 refine jo ?_
      refine jc [0,1,2] G1 (by simp [jOb, trR, arR, trM, arM]) (by simp [jEb, jOb, jMb, mapL_cellsR, okL_cellsR, trR, arR, trM, arM]) ?_; rintro _ _ ⟨rfl, rfl⟩ -; simp only [jPg, jMb, ll, Nat.reduceAdd, Nat.reduceLT, Nat.zero_add, if_true, if_false, Nat.reduceSub, reduceIte, mapL_cellsR, Nat.lt_irrefl, Nat.not_lt_zero, Nat.zero_lt_succ, Nat.lt_add_one, trR, arR, trM, arM]
      refine jn ?_
      refine js ?_
      refine je ?_
      iterate 2 refine jq ?_
      refine jg ?_
      refine jo ?_
      iterate 2 refine jP ?_
      refine jo ?_
      refine jDT ?_
      refine je ?_
      refine WS.pcondT rfl rfl ?_
      refine jg ?_
      refine jo ?_
      refine jP ?_
      iterate 3 refine jo ?_
      refine jc [0,1,2] I (by simp [jOb, trR, arR, trM, arM]) (by simp [jEb, jOb, jMb, mapL_cellsR, okL_cellsR, trR, arR, trM, arM]) ?_
      rintro _ _ ⟨rfl, ps2, rfl, S2, F2⟩ -
      have nid : id ∉ k :: l.ids := by simp only [List.mem_cons, not_or]; exact ⟨fun e => hk.2.1 e.symm, dil⟩
      have hid2 := hp
      rw [← F2.get id nid] at hid2
      have hr2 : Rep ps2 r := hr.fr F2 fun j hj hj2 => by
        rcases List.mem_cons.1 hj2 with rfl | hj2
        · exact hk.2.2 hj
        · exact d5 j hj2 j (by simp [hj]) rfl
      have hz2 : Zero ps2 := F2.zero hz (by simp only [List.mem_cons, not_or]; exact ⟨by omega, fun e => by have := hl.pos 0 e; omega⟩)
      have hlen2 := F2.len
      have hnd : ((ins k a b c l).ids ++ id :: r.ids).Nodup := by
        have := ins_nodup k a b c _ hd hk'
        rw [e, bal_ids] at this; exact this
      have hA := ht_le (ins k a b c l)
      have hB : (ins k a b c l).ids.length ≤ 700 := by
        have h1 : (ins k a b c l).ids.Nodup := (List.nodup_append.1 hnd).1
        have := List.Nodup.length_le_of_subset h1 (l₂ := List.range 700) (fun j hj => by
          rcases (ins_mem k a b c l j).1 hj with rfl | hj
          · rw [List.mem_range]; have := (List.getElem?_eq_some_iff.1 hpk).1; omega
          · rw [List.mem_range]; have := hb j (by simp [ids_nd, hj]); omega)
        simpa using this
      have B := balance_walk ps2 fr lv root len id _ (ins k a b c l) r (1 + ((max l.ht r.ht : Nat) : Int)) x y z hid2 rfl hi0 S2 hr2 hnd hz2 (by omega) (by omega) (by omega)
      simp only [jPg, jMb, ll, Nat.reduceAdd, Nat.reduceLT, Nat.zero_add, if_true, if_false, Nat.reduceSub, reduceIte, mapL_cellsR, Nat.lt_irrefl, Nat.not_lt_zero, Nat.zero_lt_succ, Nat.lt_add_one, trM, arM]
      refine jP ?_
      refine js ?_
      refine je ?_
      refine jq ?_
      refine jg ?_
      iterate 2 refine jo ?_
      refine WS.poA (tb := tb) rfl rfl rfl rfl rfl (by simp only [List.drop_zero, List.drop_succ_cons, List.take_succ_cons, List.take_zero, rwPl]; exact rfl) ?_
      refine jc [0,1,2] B (by simp [jOb, trR, arR, trM, arM]) (by simp [jEb, jOb, jMb, mapL_cellsR, okL_cellsR, trR, arR, trM, arM]) ?_
      rintro _ _ ⟨rfl, ps3, rfl, S3, F3⟩ -
      simp only [jPg, jMb, ll, Nat.reduceAdd, Nat.reduceLT, Nat.zero_add, if_true, if_false, Nat.reduceSub, reduceIte, mapL_cellsR, Nat.lt_irrefl, Nat.not_lt_zero, Nat.zero_lt_succ, Nat.lt_add_one, trM, arM]
      refine jo ?_
      refine je ?_
      refine WS.pret rfl ⟨.inr rfl, _, rfl, ?_⟩
      exact ⟨_, rfl, [0,1,2], trM ps3 fr lv root len, .i .u32 (bal id (ins k a b c l) x y z r).id, ⟨rfl, rfl, (by simp [jVb, jOb, jMb, mapL_cellsR, okL_cellsR, trM, arM]), rfl⟩, rfl, trivial, rfl, _, rfl, S3, (F2.mono (by intro j hj; rw [ids_nd]; simp only [List.mem_cons, List.mem_append] at hj ⊢; rcases hj with h | h <;> simp [h])).trans (F3.mono (by intro j hj; rw [ids_nd]; simp only [List.mem_cons, List.mem_append, ins_mem] at hj ⊢; rcases hj with (h | h) | h | h <;> simp [h]))⟩
    · have I := ihr ps nk hr (fun j hj => hb j (by simp [ids_nd, hj])) dr hk.2.2 hz hm (by omega) h0 hpk
      have e : ins k a b c (.nd id l x y z r) = bal id l x y z (ins k a b c r) := by simp only [ins, if_neg hx]
      rw [e]
      refine FM.pbodyV (tb := tb) (fn := Try.f29) rfl rfl ?_
      simp only [argS, Nat.reduceAdd, trM, arM, List.length_cons, List.length_nil, List.cons_append, List.nil_append, Tr.id]
      refine jq ?_
      refine jg ?_
      refine jo ?_
      refine je ?_
      iterate 2 refine jq ?_
      refine jg ?_
      refine jo ?_
      refine jDF ?_
      refine je ?_
      refine WS.pcondF rfl rfl ?_
      refine WS.pskip rfl ?_
      refine jq ?_
      refine jg ?_
      iterate 2 refine jo ?_
      refine jc [0,1,2] G1 (by simp [jOb, trR, arR, trM, arM]) (by simp [jEb, jOb, jMb, mapL_cellsR, okL_cellsR, trR, arR, trM, arM]) ?_; rintro _ _ ⟨rfl, rfl⟩ -; simp only [jPg, jMb, ll, Nat.reduceAdd, Nat.reduceLT, Nat.zero_add, if_true, if_false, Nat.reduceSub, reduceIte, mapL_cellsR, Nat.lt_irrefl, Nat.not_lt_zero, Nat.zero_lt_succ, Nat.lt_add_one, trR, arR, trM, arM]
      refine jn ?_
      refine js ?_
      refine je ?_
      iterate 2 refine jq ?_
      refine jg ?_
      refine jo ?_
      iterate 2 refine jP ?_
      refine jo ?_
      refine jDF ?_
      refine je ?_
      refine WS.pcondF rfl rfl ?_
      refine jg ?_
      refine jo ?_
      refine jP ?_
      iterate 3 refine jo ?_
      refine jc [0,1,2] I (by simp [jOb, trR, arR, trM, arM]) (by simp [jEb, jOb, jMb, mapL_cellsR, okL_cellsR, trR, arR, trM, arM]) ?_
      rintro _ _ ⟨rfl, ps2, rfl, S2, F2⟩ -
      have nid : id ∉ k :: r.ids := by simp only [List.mem_cons, not_or]; exact ⟨fun e => hk.2.1 e.symm, dir⟩
      have hid2 := hp
      rw [← F2.get id nid] at hid2
      have hl2 : Rep ps2 l := hl.fr F2 fun j hj hj2 => by
        rcases List.mem_cons.1 hj2 with rfl | hj2
        · exact hk.1 hj
        · exact d5 j hj j (by simp [hj2]) rfl
      have hz2 : Zero ps2 := F2.zero hz (by simp only [List.mem_cons, not_or]; exact ⟨by omega, fun e => by have := hr.pos 0 e; omega⟩)
      have hlen2 := F2.len
      have hnd : (l.ids ++ id :: (ins k a b c r).ids).Nodup := by
        have := ins_nodup k a b c _ hd hk'
        rw [e, bal_ids] at this; exact this
      have hA := ht_le (ins k a b c r)
      have hB : (ins k a b c r).ids.length ≤ 700 := by
        have h1 : (ins k a b c r).ids.Nodup := (List.nodup_cons.1 (List.nodup_append.1 hnd).2.1).2
        have := List.Nodup.length_le_of_subset h1 (l₂ := List.range 700) (fun j hj => by
          rcases (ins_mem k a b c r j).1 hj with rfl | hj
          · rw [List.mem_range]; have := (List.getElem?_eq_some_iff.1 hpk).1; omega
          · rw [List.mem_range]; have := hb j (by simp [ids_nd, hj]); omega)
        simpa using this
      have B := balance_walk ps2 fr lv root len id _ l (ins k a b c r) (1 + ((max l.ht r.ht : Nat) : Int)) x y z hid2 rfl hi0 hl2 S2 hnd hz2 (by omega) (by omega) (by omega)
      simp only [jPg, jMb, ll, Nat.reduceAdd, Nat.reduceLT, Nat.zero_add, if_true, if_false, Nat.reduceSub, reduceIte, mapL_cellsR, Nat.lt_irrefl, Nat.not_lt_zero, Nat.zero_lt_succ, Nat.lt_add_one, trM, arM]
      refine jP ?_
      refine js ?_
      refine je ?_
      refine jq ?_
      refine jg ?_
      iterate 2 refine jo ?_
      refine WS.poA (tb := tb) rfl rfl rfl rfl rfl (by simp only [List.drop_zero, List.drop_succ_cons, List.take_succ_cons, List.take_zero, rwPl]; exact rfl) ?_
      refine jc [0,1,2] B (by simp [jOb, trR, arR, trM, arM]) (by simp [jEb, jOb, jMb, mapL_cellsR, okL_cellsR, trR, arR, trM, arM]) ?_
      rintro _ _ ⟨rfl, ps3, rfl, S3, F3⟩ -
      simp only [jPg, jMb, ll, Nat.reduceAdd, Nat.reduceLT, Nat.zero_add, if_true, if_false, Nat.reduceSub, reduceIte, mapL_cellsR, Nat.lt_irrefl, Nat.not_lt_zero, Nat.zero_lt_succ, Nat.lt_add_one, trM, arM]
      refine jo ?_
      refine je ?_
      refine WS.pret rfl ⟨.inr rfl, _, rfl, ?_⟩
      exact ⟨_, rfl, [0,1,2], trM ps3 fr lv root len, .i .u32 (bal id l x y z (ins k a b c r)).id, ⟨rfl, rfl, (by simp [jVb, jOb, jMb, mapL_cellsR, okL_cellsR, trM, arM]), rfl⟩, rfl, trivial, rfl, _, rfl, S3, (F2.mono (by intro j hj; rw [ids_nd]; simp only [List.mem_cons, List.mem_append] at hj ⊢; rcases hj with h | h <;> simp [h])).trans (F3.mono (by intro j hj; rw [ids_nd]; simp only [List.mem_cons, List.mem_append, ins_mem] at hj ⊢; rcases hj with h | h | h | h <;> simp [h]))⟩
end Go.Proofs.Ytpogfelbimcglaa.Am

