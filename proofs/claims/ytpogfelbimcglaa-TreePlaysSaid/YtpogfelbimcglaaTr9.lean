/- Functions of the tree and of the law TreePlays, walked. Conditions: those of each theorem. -/
import Derived.Test.YtpogfelbimcglaaTr8
import Derived.Test.YtpogfelbimcglaaAr3
namespace Go.Proofs.Ytpogfelbimcglaa.Am
open Go.Proofs
set_option maxRecDepth 1000000
set_option maxHeartbeats 4000000
set_option linter.unusedSimpArgs false
set_option linter.unusedVariables false
/-- The places with a branch laid into them. -/
def layP (ps : List Pl) : Tr → List Pl
  | .lf => ps
  | .nd id l a b c r => (layP (layP ps l) r).set id ⟨true, (((layP (layP ps l) r)[id]?).map Pl.next).getD 0, l.id, r.id, 1 + ((max l.ht r.ht : Nat) : Int), a, b, c⟩
theorem layP_fr (ps : List Pl) : ∀ T : Tr, (∀ j, j ∈ T.ids → j < ps.length) → Fr ps (layP ps T) T.ids
  | .lf, _ => Fr.refl _ _
  | .nd id l a b c r, h => by
    have f1 := layP_fr ps l (fun j hj => h j (by simp [ids_nd, hj]))
    have f2 := layP_fr (layP ps l) r (fun j hj => by rw [f1.len]; exact h j (by simp [ids_nd, hj]))
    have hid : id < (layP (layP ps l) r).length := by rw [f2.len, f1.len]; exact h id (by simp [ids_nd])
    have hg := List.getElem?_eq_getElem hid
    have f3 := Fr.set hg ⟨true, (((layP (layP ps l) r)[id]?).map Pl.next).getD 0, l.id, r.id, 1 + ((max l.ht r.ht : Nat) : Int), a, b, c⟩ (by rw [hg]; rfl)
    simp only [layP]
    exact (f1.mono (by intro j hj; simp [ids_nd, hj])).trans ((f2.mono (by intro j hj; simp [ids_nd, hj])).trans (f3.mono (by intro j hj; simp at hj; simp [ids_nd, hj])))
theorem layP_rep (ps : List Pl) : ∀ T : Tr, (∀ j, j ∈ T.ids → 0 < j ∧ j < ps.length) → T.ids.Nodup → Rep (layP ps T) T
  | .lf, _, _ => trivial
  | .nd id l a b c r, h, hd => by
    simp only [ids_nd, List.nodup_append, List.nodup_cons, List.mem_cons, ne_eq] at hd
    obtain ⟨dl, ⟨dir, dr⟩, d5⟩ := hd
    have f1 := layP_fr ps l (fun j hj => (h j (by simp [ids_nd, hj])).2)
    have f2 := layP_fr (layP ps l) r (fun j hj => by rw [f1.len]; exact (h j (by simp [ids_nd, hj])).2)
    have r1 := layP_rep ps l (fun j hj => h j (by simp [ids_nd, hj])) dl
    have r2 := layP_rep (layP ps l) r (fun j hj => by rw [f1.len]; exact h j (by simp [ids_nd, hj])) dr
    have hid : id < (layP (layP ps l) r).length := by rw [f2.len, f1.len]; exact (h id (by simp [ids_nd])).2
    refine ⟨(h id (by simp [ids_nd])).1, ⟨_, List.getElem?_set_self hid⟩, (r1.fr f2 fun j hj hj2 => d5 j hj j (.inr hj2) rfl).frame fun j hj => ?_, r2.frame fun j hj => ?_⟩
    · exact set_other fun e => d5 j hj id (.inl rfl) e.symm
    · exact set_other fun e => dir (e ▸ hj)
theorem rep_get {ps ps' : List Pl} (hn : ∀ j : Nat, (ps'[j]?).map Pl.next = (ps[j]?).map Pl.next) : ∀ {T : Tr}, Rep ps T → Rep ps' T → ∀ j, j ∈ T.ids → ps'[j]? = ps[j]?
  | .lf, _, _, j, hj => by simp [ids_lf] at hj
  | .nd id l a b c r, ⟨_, ⟨n1, h1⟩, h2, h3⟩, ⟨_, ⟨n2, g1⟩, g2, g3⟩, j, hj => by
    simp only [ids_nd, List.mem_append, List.mem_cons] at hj
    rcases hj with hj | rfl | hj
    · exact rep_get hn h2 g2 j hj
    · have := hn j
      rw [h1, g1] at this
      simp only [Option.map_some, Option.some.injEq] at this
      rw [h1, g1, this]
    · exact rep_get hn h3 g3 j hj
theorem post_lay {ps ps' : List Pl} {I : List Nat} {T : Tr} (h : Post ps ps' I T) (hI : ∀ j, j ∈ I → j ∈ T.ids) (hd : T.ids.Nodup) : ps' = layP ps T := by
  have hp : ∀ j, j ∈ T.ids → 0 < j ∧ j < ps.length := fun j hj => by rw [← h.2.len]; exact h.1.pos j hj
  have f := layP_fr ps T (fun j hj => (hp j hj).2)
  apply List.ext_getElem?
  intro j
  by_cases hj : j ∈ T.ids
  · exact rep_get (fun i => (h.2.nx i).trans (f.nx i).symm) (layP_rep ps T hp hd) h.1 j hj
  · rw [h.2.get j (fun hi => hj (hI j hi)), f.get j hj]
/-- A tree as it is meant. -/
structure TS where
  ps : List Pl
  fr : Int
  T : Tr
def TS.n (s : TS) : Nat := s.T.ids.length
def tsM (s : TS) : List (Option Blk) := trM s.ps s.fr s.n s.T.id s.n
def tsR (s : TS) : List (Option Blk) := trR s.ps s.fr s.n s.T.id s.n
structure TOk (n : Nat) (s : TS) : Prop where
  rep : Rep s.ps s.T
  zero : Zero s.ps
  len : s.ps.length = n + 1
  free : ∃ free, Chn s.ps s.fr free ∧ (s.T.ids ++ free).Nodup ∧ s.n + free.length = n
  srt : Srt s.T.ino
  avl : Avl s.T
theorem TOk.nd {n : Nat} {s : TS} (h : TOk n s) : s.T.ids.Nodup := by obtain ⟨free, _, h2, _⟩ := h.free; exact (List.nodup_append.1 h2).1
def floorT (k : Int) : Tr → Option Nd → Option Nd
  | .lf, o => o
  | .nd id l a b c r, o => if a ≤ k then floorT k r (some ⟨id, a, b, c⟩) else floorT k l o
def ceilT (k : Int) : Tr → Option Nd → Option Nd
  | .lf, o => o
  | .nd id l a b c r, o => if a ≥ k then ceilT k l (some ⟨id, a, b, c⟩) else ceilT k r o
def oA (o : Option Nd) : Int := match o with | some x => x.a | none => 0
def oB (o : Option Nd) : Int := match o with | some x => x.b | none => 0
def oC (o : Option Nd) : Int := match o with | some x => x.c | none => 0
theorem rep_of_ne {ps : List Pl} {T : Tr} (h : Rep ps T) (hz : T.id ≠ 0) : ∃ id l a b c r, T = .nd id l a b c r := by
  cases T with
  | lf => exact absurd rfl hz
  | nd id l a b c r => exact ⟨_, _, _, _, _, _, rfl⟩
theorem floor_walk (ps : List Pl) (fr lv len k : Int) (T : Tr) (hT : Rep ps T) (hm : ps.length ≤ 600) :
  FM Try.prog 25 [.p (some (2,0)), .i .i64 k] (trR ps fr lv T.id len) (fun v M' => v = .tup [.agg [.i .i64 (oA (floorT k T none)), .i .i64 (oB (floorT k T none)), .i .i64 (oC (floorT k T none))], .b (floorT k T none).isSome] ∧ M' = trR ps fr lv T.id len) := by
  refine FM.pbodyV (tb := tb) (fn := Try.f25) rfl rfl ?_
  simp only [argS, Nat.reduceAdd, trR, arR, List.length_cons, List.length_nil, List.cons_append, List.nil_append]
  refine jq ?_
  refine jg ?_
  refine jn ?_
  refine jo ?_
  refine je ?_
  iterate 2 refine jq ?_
  refine jg ?_
  iterate 2 refine jo ?_
  refine jP ?_
  iterate 2 refine jo ?_
  refine je ?_
  refine WS.pblock rfl ?_
  refine WS.ploopI (σ := Tr × Option Nd) (τ := Unit) (fun a => [(0, .p (some (2,0))), (1, .i .i64 k), (4, .p (some (3,0))), (5, .b a.2.isSome), (6, .i .u32 a.1.id)])
    (fun a => trR ps fr lv T.id len ++ [some ⟨[.i .i64 (oA a.2), .i .i64 (oB a.2), .i .i64 (oC a.2)], 31, true⟩]) (fun a => Rep ps a.1 ∧ floorT k a.1 a.2 = floorT k T none) (fun a => a.1.ht)
    (fun _ => [(4, .p (some (3,0))), (5, .b (floorT k T none).isSome)]) (fun _ => trR ps fr lv T.id len ++ [some ⟨[.i .i64 (oA (floorT k T none)), .i .i64 (oB (floorT k T none)), .i .i64 (oC (floorT k T none))], 31, true⟩]) (fun _ => True) 0 [0,1,2,3] (T, none) rfl ⟨hT, rfl⟩ (jSb (by simp [jVb, jOb, jMb, mapL_cellsR, okL_cellsR, trR, arR, oA, oB, oC]) (by simp only [jSl, jOb, jMb, Nat.reduceAdd, Nat.reduceLT, trR, arR, oA, oB, oC] <;> exact jClo)) rfl ?_ ?_
  · rintro ⟨U, o⟩ ⟨hU, hF⟩
    simp only [trR, arR, List.cons_append, List.nil_append]
    cases U with
    | lf =>
      simp only [floorT] at hF
      subst hF
      simp only [id_lf]
      iterate 2 refine jq ?_
      refine jg ?_
      refine jo ?_
      refine jB false ?_
      refine je ?_
      refine WS.pcondF rfl rfl ?_
      refine WS.pout rfl rfl ?_
      exact ⟨rfl, (), trivial, (jSn [0,1,2,3] (by simp [jVb, jOb, jMb, mapL_cellsR, okL_cellsR, trR, arR]) (by simp only [jSl, jOb, jMb, Nat.reduceAdd, Nat.reduceLT, trR, arR] <;> exact jClo))⟩
    | nd id l a b c r =>
      obtain ⟨h0, ⟨nx, hp⟩, hl, hr⟩ := hU
      have G := tget_nd ps fr lv T.id len id _ hp rfl hm
      simp only [floorT] at hF
      simp only [id_nd]
      by_cases h1 : a ≤ k
      · rw [if_pos h1] at hF
        iterate 2 refine jq ?_
        refine jg ?_
        refine jo ?_
        refine jNT ?_
        refine je ?_
        refine WS.pcondT rfl rfl ?_
        refine WS.pskip rfl ?_
        refine WS.pblock rfl ?_
        refine jq ?_
        refine jg ?_
        iterate 2 refine jo ?_
        refine jc [0,1,2] G (by simp [jOb, trR, arR]) (by simp [jEb, jOb, jMb, mapL_cellsR, okL_cellsR, trR, arR]) ?_; rintro _ _ ⟨rfl, rfl⟩ -; simp only [jPg, jMb, ll, Nat.reduceAdd, Nat.reduceLT, Nat.zero_add, if_true, if_false, Nat.reduceSub, reduceIte, mapL_cellsR, Nat.lt_irrefl, Nat.not_lt_zero, Nat.zero_lt_succ, Nat.lt_add_one, trR, arR]
        refine jn ?_
        refine js ?_
        refine je ?_
        refine jq ?_
        refine jg ?_
        iterate 2 refine jP ?_
        iterate 2 refine jo ?_
        refine jDT ?_
        refine je ?_
        refine WS.pcondT rfl rfl ?_
        refine jq ?_
        refine jg ?_
        refine jP ?_
        refine WS.poA (tb := tb) rfl rfl rfl rfl rfl (by simp only [List.drop_zero, List.drop_succ_cons, List.take_succ_cons, List.take_zero, rwPl]; exact rfl) ?_
        refine js ?_
        refine jo ?_
        refine je ?_
        refine jg ?_
        refine jP ?_
        iterate 2 refine jo ?_
        refine je ?_
        refine WS.bend ?_
        refine WS.nil ?_
        exact ⟨(r, some ⟨id, a, b, c⟩), ⟨hr, hF⟩, by simp only [Tr.ht]; omega, (jSn [0,1,2,3] (by simp [jVb, jOb, jMb, mapL_cellsR, okL_cellsR, trR, arR, oA, oB, oC]) (by simp only [jSl, jOb, jMb, Nat.reduceAdd, Nat.reduceLT, trR, arR, oA, oB, oC] <;> exact jClo))⟩
      · rw [if_neg h1] at hF
        iterate 2 refine jq ?_
        refine jg ?_
        refine jo ?_
        refine jNT ?_
        refine je ?_
        refine WS.pcondT rfl rfl ?_
        refine WS.pskip rfl ?_
        refine WS.pblock rfl ?_
        refine jq ?_
        refine jg ?_
        iterate 2 refine jo ?_
        refine jc [0,1,2] G (by simp [jOb, trR, arR]) (by simp [jEb, jOb, jMb, mapL_cellsR, okL_cellsR, trR, arR]) ?_; rintro _ _ ⟨rfl, rfl⟩ -; simp only [jPg, jMb, ll, Nat.reduceAdd, Nat.reduceLT, Nat.zero_add, if_true, if_false, Nat.reduceSub, reduceIte, mapL_cellsR, Nat.lt_irrefl, Nat.not_lt_zero, Nat.zero_lt_succ, Nat.lt_add_one, trR, arR]
        refine jn ?_
        refine js ?_
        refine je ?_
        refine jq ?_
        refine jg ?_
        iterate 2 refine jP ?_
        iterate 2 refine jo ?_
        refine jDF ?_
        refine je ?_
        refine WS.pcondF rfl rfl ?_
        refine jg ?_
        refine jP ?_
        iterate 2 refine jo ?_
        refine je ?_
        refine WS.bend ?_
        refine WS.nil ?_
        exact ⟨(l, o), ⟨hl, hF⟩, by simp only [Tr.ht]; omega, (jSn [0,1,2,3] (by simp [jVb, jOb, jMb, mapL_cellsR, okL_cellsR, trR, arR, oA, oB, oC]) (by simp only [jSl, jOb, jMb, Nat.reduceAdd, Nat.reduceLT, trR, arR, oA, oB, oC] <;> exact jClo))⟩
  · rintro _ -
    simp only [trR, arR, List.cons_append, List.nil_append]
    refine jq ?_
    refine jg ?_
    refine WS.poA (tb := tb) rfl rfl rfl rfl rfl (by simp only [List.drop_zero, List.drop_succ_cons, List.take_succ_cons, List.take_zero, rwPl]; exact rfl) ?_
    refine jo ?_
    refine js ?_
    refine jo ?_
    refine je ?_
    refine WS.pret rfl ⟨.inr rfl, _, rfl, ?_⟩
    exact ⟨_, rfl, [0,1,2], trR ps fr lv T.id len, .tup [.agg [.i .i64 (oA (floorT k T none)), .i .i64 (oB (floorT k T none)), .i .i64 (oC (floorT k T none))], .b (floorT k T none).isSome], ⟨rfl, rfl, (by simp [jVb, jOb, jMb, mapL_cellsR, okL_cellsR, trR, arR]), rfl⟩, rfl, by simp [okV, okL], rfl, rfl⟩
end Go.Proofs.Ytpogfelbimcglaa.Am

