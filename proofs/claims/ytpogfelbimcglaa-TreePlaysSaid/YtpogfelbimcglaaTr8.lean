/- Functions of the tree and of the law TreePlays, walked. Conditions: those of each theorem. -/
import Derived.Test.YtpogfelbimcglaaTr7
namespace Go.Proofs.Ytpogfelbimcglaa.Am
open Go.Proofs
set_option maxRecDepth 1000000
set_option maxHeartbeats 4000000
set_option linter.unusedSimpArgs false
set_option linter.unusedVariables false
/-- A place that was given back. -/
def dead (fr : Int) : Pl := ⟨false, fr, 0, 0, 0, 0, 0, 0⟩
theorem remove_walk (fr lv root len : Int) (k : Int) : ∀ (T : Tr) (ps : List Pl), fid k T ≠ 0 → Rep ps T → T.ids.Nodup → Zero ps → ps.length ≤ 600 → 0 < lv → lv ≤ 600 →
  FM Try.prog 31 [.p (some (2,0)), .i .u32 T.id, .i .i64 k] (trM ps fr lv root len)
    (fun v M' => v = .i .u32 (rem k T).id ∧ ∃ ps', M' = trM ps' (fid k T) (lv - 1) root len ∧ Post (ps.set (fid k T) (dead fr)) ps' (rem k T).ids (rem k T)) := by
  intro T
  induction T with
  | lf => intro ps h; exact absurd rfl h
  | nd id l x y z r ihl ihr =>
    intro ps hf hT hd hz hm hlv hlv2
    have hn600 := rep_len hT hd hm
    have hperm := rem_perm k _ hf
    have hfpos := (hT.pos _ (fid_mem k _ hf))
    have hrnd : (rem k (.nd id l x y z r)).ids.Nodup := (List.nodup_cons.1 ((hperm.nodup_iff).1 hd)).2
    have hrl : (rem k (.nd id l x y z r)).ids.length ≤ 600 := by have := hperm.length_eq; simp only [List.length_cons] at this; omega
    have hrsub : ∀ j, j ∈ (rem k (.nd id l x y z r)).ids → j ∈ (Tr.nd id l x y z r).ids := fun j hj => hperm.mem_iff.2 (by simp [hj])
    have hT0 := hT
    obtain ⟨hi0, ⟨nx, hp⟩, hl, hr⟩ := hT
    have hd' := hd
    simp only [ids_nd, List.nodup_append, List.nodup_cons, List.mem_cons, ne_eq] at hd'
    obtain ⟨dl, ⟨dir, dr⟩, d5⟩ := hd'
    have dil : id ∉ l.ids := fun e => (d5 id e id (by simp)) rfl
    have G1 := tget_nd ps fr lv root len id _ hp rfl hm
    by_cases h1 : k < x
    · have ef : fid k (.nd id l x y z r) = fid k l := by simp only [fid, if_pos h1]
      have er : rem k (.nd id l x y z r) = bal id (rem k l) x y z r := by simp only [rem, if_pos h1]
      rw [ef] at hf hfpos hperm ⊢
      rw [er] at hrnd hrl hrsub ⊢
      have hfl := fid_mem k l hf
      have I := ihl ps hf hl dl hz hm hlv hlv2
      have hne : fid k l ≠ id := fun e => dil (e ▸ hfl)
      have sub : ∀ j, j ∈ (rem k l).ids → j ∈ l.ids := fun j hj => (rem_perm k l hf).mem_iff.2 (by simp [hj])
      refine FM.pbodyV (tb := tb) (fn := Try.f31) rfl rfl ?_
      simp only [argS, Nat.reduceAdd, trM, arM, List.length_cons, List.length_nil, List.cons_append, List.nil_append, id_nd]
      refine jq ?_
      refine jg ?_
      refine jo ?_
      refine je ?_
      refine jq ?_
      refine jg ?_
      iterate 2 refine jo ?_
      refine jc [0,1,2] G1 (by simp [jOb, trR, arR, trM, arM]) (by simp [jEb, jOb, jMb, mapL_cellsR, okL_cellsR, trR, arR, trM, arM]) ?_; rintro _ _ ⟨rfl, rfl⟩ -; simp only [jPg, jMb, ll, Nat.reduceAdd, Nat.reduceLT, Nat.zero_add, if_true, if_false, Nat.reduceSub, reduceIte, mapL_cellsR, Nat.lt_irrefl, Nat.not_lt_zero, Nat.zero_lt_succ, Nat.lt_add_one, trR, arR, trM, arM]
      refine jn ?_
      refine js ?_
      refine je ?_
      refine jq ?_
      refine WS.pblock rfl ?_
      refine jq ?_
      refine jg ?_
      refine jo ?_
      iterate 2 refine jP ?_
      refine jo ?_
      refine jDT ?_
      refine jo ?_
      refine je ?_
      refine WS.pcondT rfl rfl ?_
      refine jq ?_
      refine jg ?_
      refine jo ?_
      refine jP ?_
      iterate 2 refine jo ?_
      refine jc [0,1,2] I (by simp [jOb, trR, arR, trM, arM]) (by simp [jEb, jOb, jMb, mapL_cellsR, okL_cellsR, trR, arR, trM, arM]) ?_
      rintro _ _ ⟨rfl, ps2, rfl, S2, F2⟩ -
      have hid2 : ps2[id]? = _ := (F2.get id (fun e => dil (sub id e))).trans ((set_other hne).trans hp)
      have hr2 : Rep ps2 r := (rep_keep hr (fun e => d5 _ hfl _ (.inr e) rfl)).fr F2 fun j hj hj2 => d5 j (sub j hj2) j (by simp [hj]) rfl
      have hz2 : Zero ps2 := F2.zero (zero_set hfpos.1 hz) (fun e => by have := hl.pos 0 (sub 0 e); omega)
      have hlen2 := F2.len
      simp only [List.length_set] at hlen2
      have hnd : ((rem k l).ids ++ id :: r.ids).Nodup := by rw [bal_ids] at hrnd; exact hrnd
      rw [bal_ids, List.length_append, List.length_cons] at hrl
      have hA := ht_le (rem k l)
      have hB := ht_le r
      have B := balance_walk ps2 (fid k l) (lv - 1) root len id _ (rem k l) r (1 + ((max l.ht r.ht : Nat) : Int)) x y z hid2 rfl hi0 S2 hr2 hnd hz2 (by omega) (by omega) (by omega)
      simp only [jPg, jMb, ll, Nat.reduceAdd, Nat.reduceLT, Nat.zero_add, if_true, if_false, Nat.reduceSub, reduceIte, mapL_cellsR, Nat.lt_irrefl, Nat.not_lt_zero, Nat.zero_lt_succ, Nat.lt_add_one, trM, arM]
      refine jP ?_
      refine js ?_
      refine je ?_
      refine jq ?_
      refine jg ?_
      iterate 2 refine jo ?_
      refine WS.poA (tb := tb) rfl rfl rfl rfl rfl (by simp only [List.drop_zero, List.drop_succ_cons, List.take_succ_cons, List.take_zero, rwPl]; exact rfl) ?_
      refine jc [0,1,2] B (by simp [jOb, trR, arR, trM, arM]) (by simp [jEb, jOb, jMb, mapL_cellsR, okL_cellsR, trR, arR, trM, arM]) ?_
      rintro _ _ ⟨rfl, ps3, rfl, S3, F3⟩ -
      simp only [jPg, jMb, ll, Nat.reduceAdd, Nat.reduceLT, Nat.zero_add, if_true, if_false, Nat.reduceSub, reduceIte, mapL_cellsR, Nat.lt_irrefl, Nat.not_lt_zero, Nat.zero_lt_succ, Nat.lt_add_one, trM, arM]
      refine jo ?_
      refine je ?_
      refine WS.pret rfl ⟨.inr rfl, _, rfl, ?_⟩
      exact ⟨_, rfl, [0,1,2], trM ps3 (fid k l) (lv - 1) root len, .i .u32 (bal id (rem k l) x y z r).id, ⟨rfl, rfl, (by simp [jVb, jOb, jMb, mapL_cellsR, okL_cellsR, trM, arM]), rfl⟩, rfl, trivial, rfl, _, rfl, S3, by rw [bal_ids]; exact (F2.mono (by intro j hj; simp [hj])).trans F3⟩
    · by_cases h2 : x < k
      · have ef : fid k (.nd id l x y z r) = fid k r := by simp only [fid, if_neg h1, if_pos h2]
        have er : rem k (.nd id l x y z r) = bal id l x y z (rem k r) := by simp only [rem, if_neg h1, if_pos h2]
        rw [ef] at hf hfpos hperm ⊢
        rw [er] at hrnd hrl hrsub ⊢
        have hfl := fid_mem k r hf
        have I := ihr ps hf hr dr hz hm hlv hlv2
        have hne : fid k r ≠ id := fun e => dir (e ▸ hfl)
        have sub : ∀ j, j ∈ (rem k r).ids → j ∈ r.ids := fun j hj => (rem_perm k r hf).mem_iff.2 (by simp [hj])
        refine FM.pbodyV (tb := tb) (fn := Try.f31) rfl rfl ?_
        simp only [argS, Nat.reduceAdd, trM, arM, List.length_cons, List.length_nil, List.cons_append, List.nil_append, id_nd]
        refine jq ?_
        refine jg ?_
        refine jo ?_
        refine je ?_
        refine jq ?_
        refine jg ?_
        iterate 2 refine jo ?_
        refine jc [0,1,2] G1 (by simp [jOb, trR, arR, trM, arM]) (by simp [jEb, jOb, jMb, mapL_cellsR, okL_cellsR, trR, arR, trM, arM]) ?_; rintro _ _ ⟨rfl, rfl⟩ -; simp only [jPg, jMb, ll, Nat.reduceAdd, Nat.reduceLT, Nat.zero_add, if_true, if_false, Nat.reduceSub, reduceIte, mapL_cellsR, Nat.lt_irrefl, Nat.not_lt_zero, Nat.zero_lt_succ, Nat.lt_add_one, trR, arR, trM, arM]
        refine jn ?_
        refine js ?_
        refine je ?_
        refine jq ?_
        refine WS.pblock rfl ?_
        refine jq ?_
        refine jg ?_
        refine jo ?_
        iterate 2 refine jP ?_
        refine jo ?_
        refine jDF ?_
        refine jo ?_
        refine je ?_
        refine WS.pcondF rfl rfl ?_
        refine jq ?_
        refine jg ?_
        refine jo ?_
        iterate 2 refine jP ?_
        refine jo ?_
        refine jDT ?_
        refine jo ?_
        refine je ?_
        refine WS.pcondT rfl rfl ?_
        refine jq ?_
        refine jg ?_
        refine jo ?_
        refine jP ?_
        iterate 2 refine jo ?_
        refine jc [0,1,2] I (by simp [jOb, trR, arR, trM, arM]) (by simp [jEb, jOb, jMb, mapL_cellsR, okL_cellsR, trR, arR, trM, arM]) ?_
        rintro _ _ ⟨rfl, ps2, rfl, S2, F2⟩ -
        have hid2 : ps2[id]? = _ := (F2.get id (fun e => dir (sub id e))).trans ((set_other hne).trans hp)
        have hl2 : Rep ps2 l := (rep_keep hl (fun e => d5 _ e _ (.inr hfl) rfl)).fr F2 fun j hj hj2 => d5 j hj j (.inr (sub j hj2)) rfl
        have hz2 : Zero ps2 := F2.zero (zero_set hfpos.1 hz) (fun e => by have := hr.pos 0 (sub 0 e); omega)
        have hlen2 := F2.len
        simp only [List.length_set] at hlen2
        have hnd : (l.ids ++ id :: (rem k r).ids).Nodup := by rw [bal_ids] at hrnd; exact hrnd
        rw [bal_ids, List.length_append, List.length_cons] at hrl
        have hA := ht_le (rem k r)
        have hB := ht_le l
        have B := balance_walk ps2 (fid k r) (lv - 1) root len id _ l (rem k r) (1 + ((max l.ht r.ht : Nat) : Int)) x y z hid2 rfl hi0 hl2 S2 hnd hz2 (by omega) (by omega) (by omega)
        simp only [jPg, jMb, ll, Nat.reduceAdd, Nat.reduceLT, Nat.zero_add, if_true, if_false, Nat.reduceSub, reduceIte, mapL_cellsR, Nat.lt_irrefl, Nat.not_lt_zero, Nat.zero_lt_succ, Nat.lt_add_one, trM, arM]
        refine jP ?_
        refine js ?_
        refine je ?_
        refine jq ?_
        refine jg ?_
        iterate 2 refine jo ?_
        refine WS.poA (tb := tb) rfl rfl rfl rfl rfl (by simp only [List.drop_zero, List.drop_succ_cons, List.take_succ_cons, List.take_zero, rwPl]; exact rfl) ?_
        refine jc [0,1,2] B (by simp [jOb, trR, arR, trM, arM]) (by simp [jEb, jOb, jMb, mapL_cellsR, okL_cellsR, trR, arR, trM, arM]) ?_
        rintro _ _ ⟨rfl, ps3, rfl, S3, F3⟩ -
        simp only [jPg, jMb, ll, Nat.reduceAdd, Nat.reduceLT, Nat.zero_add, if_true, if_false, Nat.reduceSub, reduceIte, mapL_cellsR, Nat.lt_irrefl, Nat.not_lt_zero, Nat.zero_lt_succ, Nat.lt_add_one, trM, arM]
        refine jo ?_
        refine je ?_
        refine WS.pret rfl ⟨.inr rfl, _, rfl, ?_⟩
        exact ⟨_, rfl, [0,1,2], trM ps3 (fid k r) (lv - 1) root len, .i .u32 (bal id l x y z (rem k r)).id, ⟨rfl, rfl, (by simp [jVb, jOb, jMb, mapL_cellsR, okL_cellsR, trM, arM]), rfl⟩, rfl, trivial, rfl, _, rfl, S3, by rw [bal_ids]; exact (F2.mono (by intro j hj; simp [hj])).trans F3⟩
      · obtain rfl : x = k := by omega
        have ef : fid x (.nd id l x y z r) = id := by simp only [fid, if_neg h1]
        rw [ef] at hf hfpos hperm ⊢
        have V := ar_give_yes ps id fr lv _ hp rfl hm hlv hlv2
        have hl1 : Rep (ps.set id (dead fr)) l := rep_keep hl dil
        have hr1 : Rep (ps.set id (dead fr)) r := rep_keep hr dir
        have hz1 : Zero (ps.set id (dead fr)) := zero_set hi0 hz
        have hlen1 : (ps.set id (dead fr)).length = ps.length := by simp
        change FM Try.prog _ _ _ (fun v M' => v = _ ∧ M' = arM (ps.set id (dead fr)) id (lv - 1)) at V
        generalize ps.set id (dead fr) = ps1 at *
        cases l with
        | lf =>
          have er : rem x (.nd id .lf x y z r) = r := by simp [rem]
          rw [er]
          refine FM.pbodyV (tb := tb) (fn := Try.f31) rfl rfl ?_
          simp only [argS, Nat.reduceAdd, trM, arM, List.length_cons, List.length_nil, List.cons_append, List.nil_append, id_nd]
          refine jq ?_
          refine jg ?_
          refine jo ?_
          refine je ?_
          refine jq ?_
          refine jg ?_
          iterate 2 refine jo ?_
          refine jc [0,1,2] G1 (by simp [jOb, trR, arR, trM, arM, id_nd, id_lf]) (by simp [jEb, jOb, jMb, mapL_cellsR, okL_cellsR, trR, arR, trM, arM, id_nd, id_lf]) ?_; rintro _ _ ⟨rfl, rfl⟩ -; simp only [jPg, jMb, ll, Nat.reduceAdd, Nat.reduceLT, Nat.zero_add, if_true, if_false, Nat.reduceSub, reduceIte, mapL_cellsR, Nat.lt_irrefl, Nat.not_lt_zero, Nat.zero_lt_succ, Nat.lt_add_one, trR, arR, trM, arM, id_nd, id_lf]
          refine jn ?_
          refine js ?_
          refine je ?_
          refine jq ?_
          refine WS.pblock rfl ?_
          refine jq ?_
          refine jg ?_
          refine jo ?_
          iterate 2 refine jP ?_
          refine jo ?_
          refine jDF ?_
          refine jo ?_
          refine je ?_
          refine WS.pcondF rfl rfl ?_
          refine jq ?_
          refine jg ?_
          refine jo ?_
          iterate 2 refine jP ?_
          refine jo ?_
          refine jDF ?_
          refine jo ?_
          refine je ?_
          refine WS.pcondF rfl rfl ?_
          refine WS.pskip rfl ?_
          refine jq ?_
          refine jg ?_
          iterate 2 refine jo ?_
          refine jP ?_
          iterate 2 refine jo ?_
          refine jc [0,1] V (by simp [jOb, trR, arR, trM, arM, id_nd, id_lf]) (by simp [jEb, jOb, jMb, mapL_cellsR, okL_cellsR, trR, arR, trM, arM, id_nd, id_lf]) ?_; rintro _ _ ⟨rfl, rfl⟩ -; simp only [jPg, jMb, ll, Nat.reduceAdd, Nat.reduceLT, Nat.zero_add, if_true, if_false, Nat.reduceSub, reduceIte, mapL_cellsR, Nat.lt_irrefl, Nat.not_lt_zero, Nat.zero_lt_succ, Nat.lt_add_one, trR, arR, trM, arM, id_nd, id_lf]
          refine je ?_
          iterate 2 refine jq ?_
          refine jg ?_
          refine jP ?_
          refine jo ?_
          refine jB true ?_
          refine je ?_
          refine WS.pcondT rfl rfl ?_
          refine jq ?_
          refine jg ?_
          refine jP ?_
          iterate 2 refine jo ?_
          refine je ?_
          refine WS.pret rfl ⟨.inr rfl, _, rfl, ?_⟩
          exact ⟨_, rfl, [0,1,2], trM ps1 id (lv - 1) root len, .i .u32 r.id, ⟨rfl, rfl, (by simp [jVb, jOb, jMb, mapL_cellsR, okL_cellsR, trM, arM, hlen1]), rfl⟩, rfl, trivial, rfl, _, rfl, hr1, Fr.refl _ _⟩
        | nd i1 l1 x1 y1 z1 r1 =>
          generalize hL : Tr.nd i1 l1 x1 y1 z1 r1 = L at *
          have hLid : 0 < L.id := by rw [← hL] at hl ⊢; exact hl.1
          cases r with
          | lf =>
            have er : rem x (.nd id L x y z .lf) = L := by rw [← hL]; simp [rem]
            rw [er]
            refine FM.pbodyV (tb := tb) (fn := Try.f31) rfl rfl ?_
            simp only [argS, Nat.reduceAdd, trM, arM, List.length_cons, List.length_nil, List.cons_append, List.nil_append, id_nd]
            refine jq ?_
            refine jg ?_
            refine jo ?_
            refine je ?_
            refine jq ?_
            refine jg ?_
            iterate 2 refine jo ?_
            refine jc [0,1,2] G1 (by simp [jOb, trR, arR, trM, arM, id_nd, id_lf]) (by simp [jEb, jOb, jMb, mapL_cellsR, okL_cellsR, trR, arR, trM, arM, id_nd, id_lf]) ?_; rintro _ _ ⟨rfl, rfl⟩ -; simp only [jPg, jMb, ll, Nat.reduceAdd, Nat.reduceLT, Nat.zero_add, if_true, if_false, Nat.reduceSub, reduceIte, mapL_cellsR, Nat.lt_irrefl, Nat.not_lt_zero, Nat.zero_lt_succ, Nat.lt_add_one, trR, arR, trM, arM, id_nd, id_lf]
            refine jn ?_
            refine js ?_
            refine je ?_
            refine jq ?_
            refine WS.pblock rfl ?_
            refine jq ?_
            refine jg ?_
            refine jo ?_
            iterate 2 refine jP ?_
            refine jo ?_
            refine jDF ?_
            refine jo ?_
            refine je ?_
            refine WS.pcondF rfl rfl ?_
            refine jq ?_
            refine jg ?_
            refine jo ?_
            iterate 2 refine jP ?_
            refine jo ?_
            refine jDF ?_
            refine jo ?_
            refine je ?_
            refine WS.pcondF rfl rfl ?_
            refine WS.pskip rfl ?_
            refine jq ?_
            refine jg ?_
            iterate 2 refine jo ?_
            refine jP ?_
            iterate 2 refine jo ?_
            refine jc [0,1] V (by simp [jOb, trR, arR, trM, arM, id_nd, id_lf]) (by simp [jEb, jOb, jMb, mapL_cellsR, okL_cellsR, trR, arR, trM, arM, id_nd, id_lf]) ?_; rintro _ _ ⟨rfl, rfl⟩ -; simp only [jPg, jMb, ll, Nat.reduceAdd, Nat.reduceLT, Nat.zero_add, if_true, if_false, Nat.reduceSub, reduceIte, mapL_cellsR, Nat.lt_irrefl, Nat.not_lt_zero, Nat.zero_lt_succ, Nat.lt_add_one, trR, arR, trM, arM, id_nd, id_lf]
            refine je ?_
            iterate 2 refine jq ?_
            refine jg ?_
            refine jP ?_
            refine jo ?_
            refine jDF ?_
            refine je ?_
            refine WS.pcondF rfl rfl ?_
            refine WS.pskip rfl ?_
            iterate 2 refine jq ?_
            refine jg ?_
            refine jP ?_
            refine jo ?_
            refine jB true ?_
            refine je ?_
            refine WS.pcondT rfl rfl ?_
            refine jq ?_
            refine jg ?_
            refine jP ?_
            iterate 2 refine jo ?_
            refine je ?_
            refine WS.pret rfl ⟨.inr rfl, _, rfl, ?_⟩
            exact ⟨_, rfl, [0,1,2], trM ps1 id (lv - 1) root len, .i .u32 L.id, ⟨rfl, rfl, (by simp [jVb, jOb, jMb, mapL_cellsR, okL_cellsR, trM, arM, hlen1]), rfl⟩, rfl, trivial, rfl, _, rfl, hl1, Fr.refl _ _⟩
          | nd i2 l2 x2 y2 z2 r2 =>
            generalize hR : Tr.nd i2 l2 x2 y2 z2 r2 = R at *
            have hRid : 0 < R.id := by rw [← hR] at hr ⊢; exact hr.1
            have hne : R ≠ .lf := by rw [← hR]; simp
            have er : rem x (.nd id L x y z R) = bal (minT R).id L (minT R).a (minT R).b (minT R).c (delMin R) := by rw [← hL, ← hR]; simp [rem]
            rw [er] at hrnd hrl hrsub ⊢
            have FW := first_walk id (lv - 1) root len R ps1 hne hr1 dr hz1 (by omega)
            have hmi := min_ids R hne
            obtain ⟨hm0, pm, hpm, hpl, hpa, hpb, hpc⟩ := min_rep hr1 hne
            have sub : ∀ j, j ∈ (delMin R).ids → j ∈ R.ids := fun j hj => by rw [hmi]; simp [hj]
            have hmn : (minT R).id ∉ (delMin R).ids := by rw [hmi] at dr; exact (List.nodup_cons.1 dr).1
            refine FM.pbodyV (tb := tb) (fn := Try.f31) rfl rfl ?_
            simp only [argS, Nat.reduceAdd, trM, arM, List.length_cons, List.length_nil, List.cons_append, List.nil_append, id_nd]
            refine jq ?_
            refine jg ?_
            refine jo ?_
            refine je ?_
            refine jq ?_
            refine jg ?_
            iterate 2 refine jo ?_
            refine jc [0,1,2] G1 (by simp [jOb, trR, arR, trM, arM, id_nd, id_lf, hlen1]) (by simp [jEb, jOb, jMb, mapL_cellsR, okL_cellsR, trR, arR, trM, arM, id_nd, id_lf, hlen1]) ?_; rintro _ _ ⟨rfl, rfl⟩ -; simp only [jPg, jMb, ll, Nat.reduceAdd, Nat.reduceLT, Nat.zero_add, if_true, if_false, Nat.reduceSub, reduceIte, mapL_cellsR, Nat.lt_irrefl, Nat.not_lt_zero, Nat.zero_lt_succ, Nat.lt_add_one, trR, arR, trM, arM, id_nd, id_lf, hlen1]
            refine jn ?_
            refine js ?_
            refine je ?_
            refine jq ?_
            refine WS.pblock rfl ?_
            refine jq ?_
            refine jg ?_
            refine jo ?_
            iterate 2 refine jP ?_
            refine jo ?_
            refine jDF ?_
            refine jo ?_
            refine je ?_
            refine WS.pcondF rfl rfl ?_
            refine jq ?_
            refine jg ?_
            refine jo ?_
            iterate 2 refine jP ?_
            refine jo ?_
            refine jDF ?_
            refine jo ?_
            refine je ?_
            refine WS.pcondF rfl rfl ?_
            refine WS.pskip rfl ?_
            refine jq ?_
            refine jg ?_
            iterate 2 refine jo ?_
            refine jP ?_
            iterate 2 refine jo ?_
            refine jc [0,1] V (by simp [jOb, trR, arR, trM, arM, id_nd, id_lf, hlen1]) (by simp [jEb, jOb, jMb, mapL_cellsR, okL_cellsR, trR, arR, trM, arM, id_nd, id_lf, hlen1]) ?_; rintro _ _ ⟨rfl, rfl⟩ -; simp only [jPg, jMb, ll, Nat.reduceAdd, Nat.reduceLT, Nat.zero_add, if_true, if_false, Nat.reduceSub, reduceIte, mapL_cellsR, Nat.lt_irrefl, Nat.not_lt_zero, Nat.zero_lt_succ, Nat.lt_add_one, trR, arR, trM, arM, id_nd, id_lf, hlen1]
            refine je ?_
            iterate 2 refine jq ?_
            refine jg ?_
            refine jP ?_
            refine jo ?_
            refine jDF ?_
            refine je ?_
            refine WS.pcondF rfl rfl ?_
            refine WS.pskip rfl ?_
            iterate 2 refine jq ?_
            refine jg ?_
            refine jP ?_
            refine jo ?_
            refine jDF ?_
            refine je ?_
            refine WS.pcondF rfl rfl ?_
            refine WS.pskip rfl ?_
            refine jq ?_
            refine jg ?_
            refine jo ?_
            refine jP ?_
            refine jo ?_
            refine jc [0,1,2] FW (by simp [jOb, trR, arR, trM, arM, id_nd, id_lf, hlen1]) (by simp [jEb, jOb, jMb, mapL_cellsR, okL_cellsR, trR, arR, trM, arM, id_nd, id_lf, hlen1]) ?_
            rintro _ _ ⟨rfl, ps2, rfl, S2, F2⟩ -
            have hpm2 : ps2[(minT R).id]? = some pm := (F2.get _ hmn).trans hpm
            have hl2 : Rep ps2 L := hl1.fr F2 fun j hj hj2 => d5 j hj j (.inr (sub j hj2)) rfl
            have hz2 : Zero ps2 := F2.zero hz1 (fun e => by have := hr.pos 0 (sub 0 e); omega)
            have hlen2 := F2.len
            rw [hlen1] at hlen2
            have G2 := tget_nd ps2 id (lv - 1) root len (minT R).id pm hpm2 hpl (by omega)
            have hnd : (L.ids ++ (minT R).id :: (delMin R).ids).Nodup := by rw [bal_ids] at hrnd; exact hrnd
            rw [bal_ids, List.length_append, List.length_cons] at hrl
            have hA := ht_le (delMin R)
            have hB := ht_le L
            have B := balance_walk ps2 id (lv - 1) root len (minT R).id pm L (delMin R) pm.h (minT R).a (minT R).b (minT R).c hpm2 hpl hm0 hl2 S2 hnd hz2 (by omega) (by omega) (by omega)
            simp only [jPg, jMb, ll, Nat.reduceAdd, Nat.reduceLT, Nat.zero_add, if_true, if_false, Nat.reduceSub, reduceIte, mapL_cellsR, Nat.lt_irrefl, Nat.not_lt_zero, Nat.zero_lt_succ, Nat.lt_add_one, trM, arM]
            iterate 5 refine jo ?_
            refine je ?_
            refine jq ?_
            refine jg ?_
            iterate 2 refine jo ?_
            refine jc [0,1,2] G2 (by simp [jOb, trR, arR, trM, arM, hpa, hpb, hpc]) (by simp [jEb, jOb, jMb, mapL_cellsR, okL_cellsR, trR, arR, trM, arM, hpa, hpb, hpc]) ?_; rintro _ _ ⟨rfl, rfl⟩ -; simp only [jPg, jMb, ll, Nat.reduceAdd, Nat.reduceLT, Nat.zero_add, if_true, if_false, Nat.reduceSub, reduceIte, mapL_cellsR, Nat.lt_irrefl, Nat.not_lt_zero, Nat.zero_lt_succ, Nat.lt_add_one, trR, arR, trM, arM, hpa, hpb, hpc]
            refine jn ?_
            refine js ?_
            refine je ?_
            refine jq ?_
            refine jg ?_
            refine jP ?_
            iterate 2 refine jo ?_
            refine jP ?_
            refine js ?_
            refine jP ?_
            refine js ?_
            refine je ?_
            refine jq ?_
            refine jg ?_
            iterate 2 refine jo ?_
            refine WS.poA (tb := tb) rfl rfl rfl rfl rfl (by simp only [List.drop_zero, List.drop_succ_cons, List.take_succ_cons, List.take_zero, rwPl]; exact rfl) ?_
            refine jc [0,1,2] B (by simp [jOb, trR, arR, trM, arM, hpa, hpb, hpc]) (by simp [jEb, jOb, jMb, mapL_cellsR, okL_cellsR, trR, arR, trM, arM, hpa, hpb, hpc]) ?_
            rintro _ _ ⟨rfl, ps3, rfl, S3, F3⟩ -
            simp only [jPg, jMb, ll, Nat.reduceAdd, Nat.reduceLT, Nat.zero_add, if_true, if_false, Nat.reduceSub, reduceIte, mapL_cellsR, Nat.lt_irrefl, Nat.not_lt_zero, Nat.zero_lt_succ, Nat.lt_add_one, trM, arM]
            refine jo ?_
            refine je ?_
            refine WS.pret rfl ⟨.inr rfl, _, rfl, ?_⟩
            exact ⟨_, rfl, [0,1,2], trM ps3 id (lv - 1) root len, .i .u32 (bal (minT R).id L (minT R).a (minT R).b (minT R).c (delMin R)).id, ⟨rfl, rfl, (by simp [jVb, jOb, jMb, mapL_cellsR, okL_cellsR, trM, arM]), rfl⟩, rfl, trivial, rfl, _, rfl, S3, by rw [bal_ids]; exact (F2.mono (by intro j hj; simp [hj])).trans F3⟩
end Go.Proofs.Ytpogfelbimcglaa.Am

