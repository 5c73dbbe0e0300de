/- Functions of the tree and of the law TreePlays, walked. Conditions: those of each theorem. -/
import Derived.Test.YtpogfelbimcglaaTr6
namespace Go.Proofs.Ytpogfelbimcglaa.Am
open Go.Proofs
set_option maxRecDepth 1000000
set_option maxHeartbeats 4000000
set_option linter.unusedSimpArgs false
set_option linter.unusedVariables false
theorem id_nd {id : Nat} {l r : Tr} {a b c : Int} : (Tr.nd id l a b c r).id = id := rfl
theorem id_lf : Tr.lf.id = 0 := rfl
theorem rep_len {ps : List Pl} {T : Tr} (h : Rep ps T) (hd : T.ids.Nodup) (hm : ps.length ≤ 600) : T.ids.length ≤ 600 := by
  have := List.Nodup.length_le_of_subset hd (l₂ := List.range 600) (fun j hj => by rw [List.mem_range]; have := h.pos j hj; omega)
  simpa using this
theorem min_ids (T : Tr) (h : T ≠ .lf) : T.ids = (minT T).id :: (delMin T).ids := by simp [Tr.ids, min_ino T h]
theorem min_rep {ps : List Pl} : ∀ {T : Tr}, Rep ps T → T ≠ .lf → 0 < (minT T).id ∧ ∃ p, ps[(minT T).id]? = some p ∧ p.live = true ∧ p.a = (minT T).a ∧ p.b = (minT T).b ∧ p.c = (minT T).c
  | .lf, _, h => absurd rfl h
  | .nd id .lf a b c r, ⟨h0, ⟨nx, hp⟩, _, _⟩, _ => ⟨h0, _, hp, rfl, rfl, rfl, rfl⟩
  | .nd id (.nd i l x y z r0) a b c r, ⟨_, _, h, _⟩, _ => min_rep (T := .nd i l x y z r0) h (by simp)
theorem first_walk (fr lv root len : Int) : ∀ (T : Tr) (ps : List Pl), T ≠ .lf → Rep ps T → T.ids.Nodup → Zero ps → ps.length ≤ 600 →
  FM Try.prog 42 [.p (some (2,0)), .i .u32 T.id] (trM ps fr lv root len)
    (fun v M' => v = .tup [.i .u32 (minT T).id, .i .u32 (delMin T).id] ∧ ∃ ps', M' = trM ps' fr lv root len ∧ Post ps ps' (delMin T).ids (delMin T)) := by
  intro T
  induction T with
  | lf => intro ps h; exact absurd rfl h
  | nd id l x y z r ihl ihr =>
    intro ps _ hT hd hz hm
    have hn600 := rep_len hT hd hm
    obtain ⟨hi0, ⟨nx, hp⟩, hl, hr⟩ := hT
    have hd' := hd
    simp only [ids_nd, List.nodup_append, List.nodup_cons, List.mem_cons, ne_eq] at hd'
    obtain ⟨dl, ⟨dir, dr⟩, d5⟩ := hd'
    have G1 := tget_nd ps fr lv root len id _ hp rfl hm
    cases l with
    | lf =>
      refine FM.pbodyV (tb := tb) (fn := Try.f42) rfl rfl ?_
      simp only [argS, Nat.reduceAdd, trM, arM, List.length_cons, List.length_nil, List.cons_append, List.nil_append, Tr.id]
      refine jq ?_
      refine jg ?_
      iterate 2 refine jo ?_
      refine je ?_
      refine jq ?_
      refine jg ?_
      iterate 2 refine jo ?_
      refine jc [0,1,2] G1 (by simp [jOb, trR, arR, trM, arM, Tr.id]) (by simp [jEb, jOb, jMb, mapL_cellsR, okL_cellsR, trR, arR, trM, arM, Tr.id]) ?_; rintro _ _ ⟨rfl, rfl⟩ -; simp only [jPg, jMb, ll, Nat.reduceAdd, Nat.reduceLT, Nat.zero_add, if_true, if_false, Nat.reduceSub, reduceIte, mapL_cellsR, Nat.lt_irrefl, Nat.not_lt_zero, Nat.zero_lt_succ, Nat.lt_add_one, trR, arR, trM, arM, Tr.id]
      refine jn ?_
      refine js ?_
      refine je ?_
      iterate 2 refine jq ?_
      refine jg ?_
      refine jP ?_
      refine jo ?_
      refine jB true ?_
      refine je ?_
      refine WS.pcondT rfl rfl ?_
      refine jq ?_
      refine WS.pdraw (tb := tb) (by kernel_rfl) rfl (by kernel_rfl) (by kernel_rfl) ?_
      refine jp ?_
      refine jd ?_
      refine jr ?_
      iterate 2 refine jp ?_
      refine WD.fin rfl ?_
      refine WS.pret rfl ⟨.inr rfl, _, rfl, ?_⟩
      exact ⟨_, rfl, [0,1,2], trM ps fr lv root len, .tup [.i .u32 id, .i .u32 r.id], ⟨rfl, rfl, (by simp [jVb, jOb, jMb, mapL_cellsR, okL_cellsR, trM, arM]), rfl⟩, rfl, by simp [okV, okL], rfl, _, rfl, hr, Fr.refl _ _⟩
    | nd i l1 x1 y1 z1 r1 =>
      generalize hL : Tr.nd i l1 x1 y1 z1 r1 = L at *
      have hne : L ≠ .lf := by rw [← hL]; simp
      have hLid : 0 < L.id := by rw [← hL] at hl ⊢; exact hl.1
      have e1 : minT (.nd id L x y z r) = minT L := by rw [← hL]; rfl
      have e2 : delMin (.nd id L x y z r) = bal id (delMin L) x y z r := by rw [← hL]; rfl
      have I := ihl ps hne hl dl hz hm
      have hmi := min_ids L hne
      have dil : id ∉ L.ids := fun e => (d5 id e id (by simp)) rfl
      have dlm : (delMin L).ids.Nodup := by rw [hmi] at dl; exact (List.nodup_cons.1 dl).2
      have sub : ∀ j, j ∈ (delMin L).ids → j ∈ L.ids := fun j hj => by rw [hmi]; simp [hj]
      have hnd : ((delMin L).ids ++ id :: r.ids).Nodup := by
        simp only [List.nodup_append, List.nodup_cons, List.mem_cons, ne_eq]
        exact ⟨dlm, ⟨dir, dr⟩, fun q hq q2 hq2 => d5 q (sub q hq) q2 hq2⟩
      simp only [ids_nd, List.length_append, List.length_cons] at hn600
      have hA := ht_le (delMin L)
      have hAl : L.ids.length = (delMin L).ids.length + 1 := by rw [hmi]; rfl
      have hB := ht_le r
      rw [e1, e2]
      refine FM.pbodyV (tb := tb) (fn := Try.f42) rfl rfl ?_
      simp only [argS, Nat.reduceAdd, trM, arM, List.length_cons, List.length_nil, List.cons_append, List.nil_append, Tr.id]
      refine jq ?_
      refine jg ?_
      iterate 2 refine jo ?_
      refine je ?_
      refine jq ?_
      refine jg ?_
      iterate 2 refine jo ?_
      refine jc [0,1,2] G1 (by simp [jOb, trR, arR, trM, arM]) (by simp [jEb, jOb, jMb, mapL_cellsR, okL_cellsR, trR, arR, trM, arM]) ?_; rintro _ _ ⟨rfl, rfl⟩ -; simp only [jPg, jMb, ll, Nat.reduceAdd, Nat.reduceLT, Nat.zero_add, if_true, if_false, Nat.reduceSub, reduceIte, mapL_cellsR, Nat.lt_irrefl, Nat.not_lt_zero, Nat.zero_lt_succ, Nat.lt_add_one, trR, arR, trM, arM]
      refine jn ?_
      refine js ?_
      refine je ?_
      iterate 2 refine jq ?_
      refine jg ?_
      refine jP ?_
      refine jo ?_
      refine jDF ?_
      refine je ?_
      refine WS.pcondF rfl rfl ?_
      refine WS.pskip rfl ?_
      refine jq ?_
      refine jg ?_
      refine jo ?_
      refine jP ?_
      refine jo ?_
      refine jc [0,1,2] I (by simp [jOb, trR, arR, trM, arM]) (by simp [jEb, jOb, jMb, mapL_cellsR, okL_cellsR, trR, arR, trM, arM]) ?_
      rintro _ _ ⟨rfl, ps2, rfl, S2, F2⟩ -
      have hid2 := hp
      rw [← F2.get id (fun e => dil (sub id e))] at hid2
      have hr2 : Rep ps2 r := hr.fr F2 fun j hj hj2 => d5 j (sub j hj2) j (by simp [hj]) rfl
      have hz2 : Zero ps2 := F2.zero hz (fun e => by have := hl.pos 0 (sub 0 e); omega)
      have hlen2 := F2.len
      have B := balance_walk ps2 fr lv root len id _ (delMin L) r (1 + ((max L.ht r.ht : Nat) : Int)) x y z hid2 rfl hi0 S2 hr2 hnd hz2 (by omega) (by omega) (by omega)
      simp only [jPg, jMb, ll, Nat.reduceAdd, Nat.reduceLT, Nat.zero_add, if_true, if_false, Nat.reduceSub, reduceIte, mapL_cellsR, Nat.lt_irrefl, Nat.not_lt_zero, Nat.zero_lt_succ, Nat.lt_add_one, trM, arM]
      iterate 4 refine jo ?_
      refine jP ?_
      refine js ?_
      refine je ?_
      refine jq ?_
      refine jg ?_
      iterate 3 refine jo ?_
      refine WS.poA (tb := tb) rfl rfl rfl rfl rfl (by simp only [List.drop_zero, List.drop_succ_cons, List.take_succ_cons, List.take_zero, rwPl]; exact rfl) ?_
      refine jc [0,1,2] B (by simp [jOb, trR, arR, trM, arM]) (by simp [jEb, jOb, jMb, mapL_cellsR, okL_cellsR, trR, arR, trM, arM]) ?_
      rintro _ _ ⟨rfl, ps3, rfl, S3, F3⟩ -
      simp only [jPg, jMb, ll, Nat.reduceAdd, Nat.reduceLT, Nat.zero_add, if_true, if_false, Nat.reduceSub, reduceIte, mapL_cellsR, Nat.lt_irrefl, Nat.not_lt_zero, Nat.zero_lt_succ, Nat.lt_add_one, trM, arM]
      iterate 2 refine jo ?_
      refine je ?_
      refine WS.pret rfl ⟨.inr rfl, _, rfl, ?_⟩
      exact ⟨_, rfl, [0,1,2], trM ps3 fr lv root len, .tup [.i .u32 (minT L).id, .i .u32 (bal id (delMin L) x y z r).id], ⟨rfl, rfl, (by simp [jVb, jOb, jMb, mapL_cellsR, okL_cellsR, trM, arM]), rfl⟩, rfl, by simp [okV, okL], rfl, _, rfl, S3, by rw [bal_ids]; exact (F2.mono (by intro j hj; simp [hj])).trans F3⟩
/-- The number of the node that holds a key. -/
def fid (k : Int) : Tr → Nat
  | .lf => 0
  | .nd id l x _ _ r => if k < x then fid k l else if x < k then fid k r else id
theorem fid_mem (k : Int) : ∀ T : Tr, fid k T ≠ 0 → fid k T ∈ T.ids
  | .lf, h => absurd rfl h
  | .nd id l x y z r, h => by
    simp only [fid] at h ⊢
    rw [ids_nd]
    split
    · next h1 => rw [if_pos h1] at h; simp [fid_mem k l h]
    · next h1 =>
      rw [if_neg h1] at h
      split
      · next h2 => rw [if_pos h2] at h; simp [fid_mem k r h]
      · simp
/-- What is left, and what went. -/
theorem rem_perm (k : Int) : ∀ T : Tr, fid k T ≠ 0 → List.Perm T.ids (fid k T :: (rem k T).ids)
  | .lf, h => absurd rfl h
  | .nd id l x y z r, h => by
    simp only [fid, rem] at h ⊢
    rw [ids_nd]
    split
    · next h1 =>
      rw [if_pos h1] at h
      rw [bal_ids]
      exact (rem_perm k l h).append_right _
    · next h1 =>
      rw [if_neg h1] at h
      split
      · next h2 =>
        rw [if_pos h2] at h
        rw [bal_ids]
        have := rem_perm k r h
        refine ((List.Perm.cons id this).append_left l.ids).trans ?_
        refine (List.Perm.append_left l.ids (List.Perm.swap _ _ _)).trans ?_
        exact List.perm_middle
      · split
        · exact List.Perm.refl _
        · simp only [ids_lf]; simp
        · next h3 h4 =>
          rw [bal_ids, min_ids r (by rintro rfl; exact h4 rfl)]
          exact List.perm_middle
end Go.Proofs.Ytpogfelbimcglaa.Am

