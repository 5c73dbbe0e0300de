/- Functions of the flash, walked. Conditions: those of each theorem. -/
import Derived.Test.YtmkolibmadbenaaAm5
import Derived.Test.YtmkolibmadbenaaNp5
import Derived.Test.YtmkolibmadbenaaNs2
import Derived.Test.YtmkolibmadbenaaNp6
namespace Go.Proofs.Ytmkolibmadbenaa.Am
open Go.Proofs
set_option maxRecDepth 1000000
set_option maxHeartbeats 4000000
set_option linter.unusedSimpArgs false
set_option linter.unusedVariables false
theorem bkK_wear {bk : List Bk} {b : Nat} {y : Bk} (hy : bk[b]? = some y) (r k : Nat) : (bkK bk b y r k).map Bk.wear = bk.map Bk.wear := by
  unfold bkK; split
  · rfl
  · exact map_set_id Bk.wear hy rfl
theorem prX_wear (x : NS) : (prX x).bk = x.bk := prX_bk x
theorem prS_wear {x : NS} {page b r : Nat} {D : List Int} {y : Bk} (hy : x.bk[b]? = some y) : (prS x page b r D y).bk.map Bk.wear = x.bk.map Bk.wear := by
  unfold prS
  split
  · show (bkK (prX x).bk b y r _).map Bk.wear = _; rw [prX_bk]; exact bkK_wear hy _ _
  · split
    · exact map_set_id Bk.wear hy rfl
    · show (bkK (prX x).bk b y r 17).map Bk.wear = _; rw [prX_bk]; exact bkK_wear hy _ _
theorem pgS_wear {x : NS} {np : Nat} (H : NOk x np) (z : Int) (D : List Int) : (pgS x np z D).bk.map Bk.wear = x.bk.map Bk.wear := by
  unfold pgS
  split
  · rfl
  · next h0 =>
    split
    · rfl
    · obtain ⟨page, b, r, y, rfl, h1, rfl, rfl, hy, hq, hr, hrp⟩ := page_at H (z := z) (by omega)
      simp only [Int.toNat_natCast, hy]
      split
      · rfl
      · split
        · rfl
        · exact prS_wear hy
theorem erS_wear {x : NS} {n o w : Nat} {y : Bk} (hy : x.bk[n]? = some y) : (erS x n o w y).bk.map Bk.wear = (x.bk.map Bk.wear).set n (y.wear + 1) ∧ (erS x n o w y).er = x.er + 1 := by
  obtain ⟨b1, b2, b3, b4, b5, b6, b7, b8, b9, b10⟩ := bgS_keep { x with er := x.er + 1, bk := x.bk.set n { y with wear := y.wear + 1 } }
  have hx : erX x n y = bgS { x with er := x.er + 1, bk := x.bk.set n { y with wear := y.wear + 1 } } := rfl
  simp only at b3 b8
  obtain ⟨c1, c2, c3, c4, c5, c6, c7, c8, c9⟩ := stS_keep (erX x n y)
  have hb := (List.getElem?_eq_some_iff.1 hy).1
  have k1 : (stS (erX x n y)).bk = x.bk.set n { y with wear := y.wear + 1 } := by rw [c3, hx, b3]
  have k2 : (stS (erX x n y)).er = x.er + 1 := by rw [c7, hx, b8]
  have k3 : ∀ z : Bk, z.wear = y.wear + 1 → ((stS (erX x n y)).bk.set n z).map Bk.wear = (x.bk.map Bk.wear).set n (y.wear + 1) := fun z hz => by rw [k1, List.set_set, List.map_set, hz]
  obtain ⟨m1, m2, m3, m4, m5, m6, m7, m8, m9⟩ := stS_keep (erF (stS (erX x n y)) n o w 0 ⟨0, y.bad, true, y.wear + 1⟩)
  unfold erS
  simp only
  split
  · exact ⟨by rw [k1, List.map_set], k2⟩
  · split
    · exact ⟨k3 _ rfl, k2⟩
    · split
      · exact ⟨by rw [m3]; exact k3 _ rfl, m7.trans k2⟩
      · refine ⟨?_, m7.trans k2⟩
        show ((stS _).bk.set n _).map Bk.wear = _
        rw [m3]
        show (((stS (erX x n y)).bk.set n _).set n _).map Bk.wear = _
        rw [List.set_set]; exact k3 _ rfl
theorem esS_wear {x : NS} (z : Int) : ((esS x z).er = x.er ∧ (esS x z).bk.map Bk.wear = x.bk.map Bk.wear) ∨
    ∃ (n : Nat) (y : Bk), z = n ∧ x.bk[n]? = some y ∧ (esS x z).er = x.er + 1 ∧ (esS x z).bk.map Bk.wear = (x.bk.map Bk.wear).set n (y.wear + 1) := by
  unfold esS
  split
  · exact .inl ⟨rfl, rfl⟩
  · next h0 =>
    split
    · exact .inl ⟨rfl, rfl⟩
    · obtain ⟨n, rfl⟩ : ∃ n : Nat, z = n := ⟨z.toNat, by omega⟩
      obtain ⟨y, hy⟩ : ∃ y, x.bk[n]? = some y := ⟨_, List.getElem?_eq_getElem (by omega)⟩
      simp only [Int.toNat_natCast, hy]
      split
      · exact .inl ⟨rfl, rfl⟩
      · obtain ⟨g1, g2⟩ := erS_wear (o := n * x.p * 68) (w := x.p * 68) hy
        exact .inr ⟨n, y, rfl, hy, g2, g1⟩
theorem sum_set : ∀ {W : List Int} {n : Nat} {w : Int}, W[n]? = some w → (W.set n (w + 1)).sum = W.sum + 1
  | [], n, w, h => by simp at h
  | x :: W, 0, w, h => by
    simp only [List.getElem?_cons_zero, Option.some.injEq] at h
    subst h
    simp only [List.set_cons_zero, List.sum_cons]; omega
  | x :: W, n + 1, w, h => by
    simp only [List.getElem?_cons_succ] at h
    simp only [List.set_cons_succ, List.sum_cons, sum_set h]; omega
def WM (l : List Act) (x : NS) : List (Option Blk) := [some ⟨cellsR rwAct l, 38, false⟩] ++ ndB 1 x ++ rfB 4 x ++ [some ⟨cellsR (rwI .i64) (x.bk.map Bk.wear), 3, true⟩]
def SSw (b p : Nat) (l : List Act) (c : Nat) (a : StP) : List (Nat × V) := [(0, .i .i64 b), (1, .i .i64 p), (2, .sl (some (0,0)) l.length c false), (7, .p (some (3,0))), (9, .p (some (8,0))), (10, .sl (some (9,0)) b b false), (11, .i .i64 a.1)]
structure InvW (b np m : Nat) (a : StP) : Prop where
  le : a.1 ≤ m
  ok : NOk a.2 np
  len : a.2.bk.length = b
  rd : a.2.rd = 0
  pr : a.2.pr ≤ a.1
  er : a.2.er ≤ a.1
  sum : (a.2.bk.map Bk.wear).sum = a.2.er
abbrev PostW (b p np : Nat) (l : List Act) (c : Nat) (s : StP) : Ex → T V → LH → Prop := fun x t' h' => match x with
  | .n => ∃ s', InvW b np l.length s' ∧ l.length - s'.1 < l.length - s.1 ∧ Seen 1 t' h' (SSw b p l c s') (WM l s'.2)
  | .x j => j = 0 ∧ ∃ s' : NS, (InvW b np l.length (l.length, s')) ∧ Seen 1 t' h' [(0, .i .i64 b), (1, .i .i64 p), (7, .p (some (3,0))), (10, .sl (some (9,0)) b b false)] (WM l s')
  | .r => False
theorem map_wear_len (x : NS) : (x.bk.map Bk.wear).length = x.bk.length := List.length_map _
theorem pw_none (b p np : Nat) (l : List Act) (c i : Nat) (x : NS) (op a short fill : Int) (H : InvW b np l.length (i, x)) (hl : l.length ≤ 40) (hx : l[i]? = some ⟨op, a, short, fill⟩) (hg : goodA ⟨op, a, short, fill⟩) (ho : ¬ op = 0 ∧ ¬ op = 1 ∧ ¬ op = 3 ∧ ¬ op = 4 ∧ ¬ op = 5) :
    WS Try.prog (frameN Try.f6 3) 1 [.c (k1 (k1 (k2 (k1 (k2 (k2 (k2 (k2 (k2 (k2 (k2 (kb Try.f6))))))))))))] (slt (SSw b p l c (i, x))) (mem 0 (WM l x)) (PostW b p np l c (i, x)) := by
  have hi : i < l.length := (List.getElem?_eq_some_iff.1 hx).1
  obtain ⟨hle, H, hlen, hrd, hpr, her, hsum⟩ := H
  dsimp only at H hlen hrd hpr her hsum
  have hga := wf64 hg.2.1
  dsimp only at hga
  obtain ⟨o0, o1, o3, o4, o5⟩ := ho
  simp only [SSw, WM, ndB, rfB, List.cons_append, List.nil_append]
  iterate 2 refine jq ?_
  refine jg ?_
  iterate 3 refine jo ?_
  refine jDT ?_
  refine je ?_
  refine WS.pcondT rfl rfl ?_
  refine WS.pskip rfl ?_
  refine jq ?_
  refine WS.pblock rfl ?_
  refine jq ?_
  refine jg ?_
  iterate 2 refine jo ?_
  refine jI ?_
  refine WS.poA (tb := tb) rfl rfl rfl rfl (step_R rfl (evR_loads rfl rfl rfl rfl rfl (by exact (cellsR_part0 (R := rwAct) hx (by exact Nat.le_of_ble_eq_true rfl))) (by exact rfl))) (by simp only [List.drop_zero, List.drop_succ_cons, List.take_succ_cons, List.take_zero, rwBk, rwAct]; exact rfl) ?_
  refine jn ?_
  refine js ?_
  refine je ?_
  refine jq ?_
  refine jg ?_
  refine jP ?_
  refine jo ?_
  refine je ?_
  refine WS.pblock rfl ?_
  refine jq ?_
  refine jg ?_
  refine jDF ?_
  refine jo ?_
  refine je ?_
  refine WS.pcondF rfl rfl ?_
  refine jq ?_
  refine jg ?_
  refine jDF ?_
  refine jo ?_
  refine je ?_
  refine WS.pcondF rfl rfl ?_
  refine jq ?_
  refine jg ?_
  refine jDF ?_
  refine jo ?_
  refine je ?_
  refine WS.pcondF rfl rfl ?_
  refine jq ?_
  refine jg ?_
  refine jDF ?_
  refine jo ?_
  refine je ?_
  refine WS.pcondF rfl rfl ?_
  refine jq ?_
  refine jg ?_
  refine jDF ?_
  refine jo ?_
  refine je ?_
  refine WS.pcondF rfl rfl ?_
  refine WS.pskip rfl ?_
  refine jg ?_
  refine jo ?_
  refine jW ?_
  refine jo ?_
  refine je ?_
  refine WS.nil ?_
  exact ⟨(i + 1, x), ⟨hi, H, hlen, hrd, by simp only; omega, by simp only; omega, hsum⟩, by simp only; omega, (jSn [0,1,2,3,4,5,6,7,8,9] (by simp [jVb, jOb, jMb, mapL_cellsR, okL_cellsR, SSw, WM, ndB, rfB, List.cons_append, List.nil_append]) (by simp only [jSl, jOb, jMb, Nat.reduceAdd, Nat.reduceLT, SSw, WM, ndB, rfB, List.cons_append, List.nil_append] <;> exact jClo))⟩
theorem pw_cut (b p np : Nat) (l : List Act) (c i : Nat) (x : NS) (op a short fill : Int) (H : InvW b np l.length (i, x)) (hl : l.length ≤ 40) (hx : l[i]? = some ⟨op, a, short, fill⟩) (hg : goodA ⟨op, a, short, fill⟩) (ho : op = 3) :
    WS Try.prog (frameN Try.f6 3) 1 [.c (k1 (k1 (k2 (k1 (k2 (k2 (k2 (k2 (k2 (k2 (k2 (kb Try.f6))))))))))))] (slt (SSw b p l c (i, x))) (mem 0 (WM l x)) (PostW b p np l c (i, x)) := by
  have hi : i < l.length := (List.getElem?_eq_some_iff.1 hx).1
  obtain ⟨hle, H, hlen, hrd, hpr, her, hsum⟩ := H
  dsimp only at H hlen hrd hpr her hsum
  have hga := wf64 hg.2.1
  dsimp only at hga
  subst ho
  have H' : NOk { x with cut := max a (-1) } np := nok_of H ⟨rfl, rfl, rfl⟩ H.nx H.wr (by simp only; omega) (by simp only; omega) H.fail1 H.fail2 H.rd1 H.rd2 H.pr1 H.pr2 H.er1 H.er2
  have C := cut_walk x a
  simp only [ndM] at C
  simp only [SSw, WM, ndB, rfB, List.cons_append, List.nil_append]
  by_cases h0 : 0 ≤ a
  · have hm : max a (-1) = a := by omega
    simp only [hm] at C H'
    iterate 2 refine jq ?_
    refine jg ?_
    iterate 3 refine jo ?_
    refine jDT ?_
    refine je ?_
    refine WS.pcondT rfl rfl ?_
    refine WS.pskip rfl ?_
    refine jq ?_
    refine WS.pblock rfl ?_
    refine jq ?_
    refine jg ?_
    iterate 2 refine jo ?_
    refine jI ?_
    refine WS.poA (tb := tb) rfl rfl rfl rfl (step_R rfl (evR_loads rfl rfl rfl rfl rfl (by exact (cellsR_part0 (R := rwAct) hx (by exact Nat.le_of_ble_eq_true rfl))) (by exact rfl))) (by simp only [List.drop_zero, List.drop_succ_cons, List.take_succ_cons, List.take_zero, rwBk, rwAct]; exact rfl) ?_
    refine jn ?_
    refine js ?_
    refine je ?_
    refine jq ?_
    refine jg ?_
    refine jP ?_
    refine jo ?_
    refine je ?_
    refine WS.pblock rfl ?_
    refine jq ?_
    refine jg ?_
    refine jB false ?_
    refine jo ?_
    refine je ?_
    refine WS.pcondF rfl rfl ?_
    refine jq ?_
    refine jg ?_
    refine jB false ?_
    refine jo ?_
    refine je ?_
    refine WS.pcondF rfl rfl ?_
    refine jq ?_
    refine jg ?_
    refine jB true ?_
    refine jo ?_
    refine je ?_
    refine WS.pcondT rfl rfl ?_
    refine jq ?_
    refine jg ?_
    refine jo ?_
    refine jP ?_
    refine jo ?_
    refine jc [1,2,3] C (by simp [jOb]) (by simp [jEb, jOb, jMb, mapL_cellsR, okL_cellsR]) ?_; rintro _ _ ⟨rfl, rfl⟩ -; simp only [jPg, jMb, ll, Nat.reduceAdd, Nat.reduceLT, Nat.zero_add, if_true, if_false, Nat.reduceSub, reduceIte, mapL_cellsR, Nat.lt_irrefl, Nat.not_lt_zero, Nat.zero_lt_succ, Nat.lt_add_one]
    refine je ?_
    refine jq ?_
    refine jg ?_
    iterate 2 refine jo ?_
    refine jP ?_
    refine js ?_
    refine je ?_
    refine jq ?_
    refine jg ?_
    refine jP ?_
    refine jo ?_
    refine jDT ?_
    refine je ?_
    refine WS.pcondT rfl rfl ?_
    refine jg ?_
    refine jo ?_
    refine jP ?_
    iterate 2 refine jo ?_
    refine jP ?_
    refine js ?_
    refine je ?_
    refine jg ?_
    refine jo ?_
    refine jW ?_
    refine jo ?_
    refine je ?_
    refine WS.nil ?_
    exact ⟨(i + 1, { x with cut := a }), ⟨hi, H', hlen, hrd, by simp only; omega, by simp only; omega, hsum⟩, by simp only; omega, (jSn [0,1,2,3,4,5,6,7,8,9] (by simp [jVb, jOb, jMb, mapL_cellsR, okL_cellsR, SSw, WM, ndB, rfB, List.cons_append, List.nil_append]) (by simp only [jSl, jOb, jMb, Nat.reduceAdd, Nat.reduceLT, SSw, WM, ndB, rfB, List.cons_append, List.nil_append] <;> exact jClo))⟩
  · have hm : max a (-1) = -1 := by omega
    simp only [hm] at C H'
    iterate 2 refine jq ?_
    refine jg ?_
    iterate 3 refine jo ?_
    refine jDT ?_
    refine je ?_
    refine WS.pcondT rfl rfl ?_
    refine WS.pskip rfl ?_
    refine jq ?_
    refine WS.pblock rfl ?_
    refine jq ?_
    refine jg ?_
    iterate 2 refine jo ?_
    refine jI ?_
    refine WS.poA (tb := tb) rfl rfl rfl rfl (step_R rfl (evR_loads rfl rfl rfl rfl rfl (by exact (cellsR_part0 (R := rwAct) hx (by exact Nat.le_of_ble_eq_true rfl))) (by exact rfl))) (by simp only [List.drop_zero, List.drop_succ_cons, List.take_succ_cons, List.take_zero, rwBk, rwAct]; exact rfl) ?_
    refine jn ?_
    refine js ?_
    refine je ?_
    refine jq ?_
    refine jg ?_
    refine jP ?_
    refine jo ?_
    refine je ?_
    refine WS.pblock rfl ?_
    refine jq ?_
    refine jg ?_
    refine jB false ?_
    refine jo ?_
    refine je ?_
    refine WS.pcondF rfl rfl ?_
    refine jq ?_
    refine jg ?_
    refine jB false ?_
    refine jo ?_
    refine je ?_
    refine WS.pcondF rfl rfl ?_
    refine jq ?_
    refine jg ?_
    refine jB true ?_
    refine jo ?_
    refine je ?_
    refine WS.pcondT rfl rfl ?_
    refine jq ?_
    refine jg ?_
    refine jo ?_
    refine jP ?_
    refine jo ?_
    refine jc [1,2,3] C (by simp [jOb]) (by simp [jEb, jOb, jMb, mapL_cellsR, okL_cellsR]) ?_; rintro _ _ ⟨rfl, rfl⟩ -; simp only [jPg, jMb, ll, Nat.reduceAdd, Nat.reduceLT, Nat.zero_add, if_true, if_false, Nat.reduceSub, reduceIte, mapL_cellsR, Nat.lt_irrefl, Nat.not_lt_zero, Nat.zero_lt_succ, Nat.lt_add_one]
    refine je ?_
    refine jq ?_
    refine jg ?_
    iterate 2 refine jo ?_
    refine jP ?_
    refine js ?_
    refine je ?_
    refine jq ?_
    refine jg ?_
    refine jP ?_
    refine jo ?_
    refine jDF ?_
    refine je ?_
    refine WS.pcondF rfl rfl ?_
    refine WS.pskip rfl ?_
    refine jg ?_
    refine jo ?_
    refine jW ?_
    refine jo ?_
    refine je ?_
    refine WS.nil ?_
    exact ⟨(i + 1, { x with cut := -1 }), ⟨hi, H', hlen, hrd, by simp only; omega, by simp only; omega, hsum⟩, by simp only; omega, (jSn [0,1,2,3,4,5,6,7,8,9] (by simp [jVb, jOb, jMb, mapL_cellsR, okL_cellsR, SSw, WM, ndB, rfB, List.cons_append, List.nil_append]) (by simp only [jSl, jOb, jMb, Nat.reduceAdd, Nat.reduceLT, SSw, WM, ndB, rfB, List.cons_append, List.nil_append] <;> exact jClo))⟩
theorem pw_fail (b p np : Nat) (l : List Act) (c i : Nat) (x : NS) (op a short fill : Int) (H : InvW b np l.length (i, x)) (hl : l.length ≤ 40) (hx : l[i]? = some ⟨op, a, short, fill⟩) (hg : goodA ⟨op, a, short, fill⟩) (ho : op = 4) :
    WS Try.prog (frameN Try.f6 3) 1 [.c (k1 (k1 (k2 (k1 (k2 (k2 (k2 (k2 (k2 (k2 (k2 (kb Try.f6))))))))))))] (slt (SSw b p l c (i, x))) (mem 0 (WM l x)) (PostW b p np l c (i, x)) := by
  have hi : i < l.length := (List.getElem?_eq_some_iff.1 hx).1
  obtain ⟨hle, H, hlen, hrd, hpr, her, hsum⟩ := H
  dsimp only at H hlen hrd hpr her hsum
  have hga := wf64 hg.2.1
  dsimp only at hga
  subst ho
  have H' : NOk { x with fail := max a (-1) } np := nok_of H ⟨rfl, rfl, rfl⟩ H.nx H.wr H.cut1 H.cut2 (by simp only; omega) (by simp only; omega) H.rd1 H.rd2 H.pr1 H.pr2 H.er1 H.er2
  have C := failc_walk x a
  simp only [ndM] at C
  simp only [SSw, WM, ndB, rfB, List.cons_append, List.nil_append]
  by_cases h0 : 0 ≤ a
  · have hm : max a (-1) = a := by omega
    simp only [hm] at C H'
    iterate 2 refine jq ?_
    refine jg ?_
    iterate 3 refine jo ?_
    refine jDT ?_
    refine je ?_
    refine WS.pcondT rfl rfl ?_
    refine WS.pskip rfl ?_
    refine jq ?_
    refine WS.pblock rfl ?_
    refine jq ?_
    refine jg ?_
    iterate 2 refine jo ?_
    refine jI ?_
    refine WS.poA (tb := tb) rfl rfl rfl rfl (step_R rfl (evR_loads rfl rfl rfl rfl rfl (by exact (cellsR_part0 (R := rwAct) hx (by exact Nat.le_of_ble_eq_true rfl))) (by exact rfl))) (by simp only [List.drop_zero, List.drop_succ_cons, List.take_succ_cons, List.take_zero, rwBk, rwAct]; exact rfl) ?_
    refine jn ?_
    refine js ?_
    refine je ?_
    refine jq ?_
    refine jg ?_
    refine jP ?_
    refine jo ?_
    refine je ?_
    refine WS.pblock rfl ?_
    refine jq ?_
    refine jg ?_
    refine jB false ?_
    refine jo ?_
    refine je ?_
    refine WS.pcondF rfl rfl ?_
    refine jq ?_
    refine jg ?_
    refine jB false ?_
    refine jo ?_
    refine je ?_
    refine WS.pcondF rfl rfl ?_
    refine jq ?_
    refine jg ?_
    refine jB false ?_
    refine jo ?_
    refine je ?_
    refine WS.pcondF rfl rfl ?_
    refine jq ?_
    refine jg ?_
    refine jB true ?_
    refine jo ?_
    refine je ?_
    refine WS.pcondT rfl rfl ?_
    refine jq ?_
    refine jg ?_
    refine jo ?_
    refine jP ?_
    refine jo ?_
    refine jc [1,2,3] C (by simp [jOb]) (by simp [jEb, jOb, jMb, mapL_cellsR, okL_cellsR]) ?_; rintro _ _ ⟨rfl, rfl⟩ -; simp only [jPg, jMb, ll, Nat.reduceAdd, Nat.reduceLT, Nat.zero_add, if_true, if_false, Nat.reduceSub, reduceIte, mapL_cellsR, Nat.lt_irrefl, Nat.not_lt_zero, Nat.zero_lt_succ, Nat.lt_add_one]
    refine je ?_
    refine jq ?_
    refine jg ?_
    iterate 2 refine jo ?_
    refine jP ?_
    refine js ?_
    refine je ?_
    refine jq ?_
    refine jg ?_
    refine jP ?_
    refine jo ?_
    refine jDT ?_
    refine je ?_
    refine WS.pcondT rfl rfl ?_
    refine jg ?_
    refine jo ?_
    refine jP ?_
    iterate 2 refine jo ?_
    refine jP ?_
    refine js ?_
    refine je ?_
    refine jg ?_
    refine jo ?_
    refine jW ?_
    refine jo ?_
    refine je ?_
    refine WS.nil ?_
    exact ⟨(i + 1, { x with fail := a }), ⟨hi, H', hlen, hrd, by simp only; omega, by simp only; omega, hsum⟩, by simp only; omega, (jSn [0,1,2,3,4,5,6,7,8,9] (by simp [jVb, jOb, jMb, mapL_cellsR, okL_cellsR, SSw, WM, ndB, rfB, List.cons_append, List.nil_append]) (by simp only [jSl, jOb, jMb, Nat.reduceAdd, Nat.reduceLT, SSw, WM, ndB, rfB, List.cons_append, List.nil_append] <;> exact jClo))⟩
  · have hm : max a (-1) = -1 := by omega
    simp only [hm] at C H'
    iterate 2 refine jq ?_
    refine jg ?_
    iterate 3 refine jo ?_
    refine jDT ?_
    refine je ?_
    refine WS.pcondT rfl rfl ?_
    refine WS.pskip rfl ?_
    refine jq ?_
    refine WS.pblock rfl ?_
    refine jq ?_
    refine jg ?_
    iterate 2 refine jo ?_
    refine jI ?_
    refine WS.poA (tb := tb) rfl rfl rfl rfl (step_R rfl (evR_loads rfl rfl rfl rfl rfl (by exact (cellsR_part0 (R := rwAct) hx (by exact Nat.le_of_ble_eq_true rfl))) (by exact rfl))) (by simp only [List.drop_zero, List.drop_succ_cons, List.take_succ_cons, List.take_zero, rwBk, rwAct]; exact rfl) ?_
    refine jn ?_
    refine js ?_
    refine je ?_
    refine jq ?_
    refine jg ?_
    refine jP ?_
    refine jo ?_
    refine je ?_
    refine WS.pblock rfl ?_
    refine jq ?_
    refine jg ?_
    refine jB false ?_
    refine jo ?_
    refine je ?_
    refine WS.pcondF rfl rfl ?_
    refine jq ?_
    refine jg ?_
    refine jB false ?_
    refine jo ?_
    refine je ?_
    refine WS.pcondF rfl rfl ?_
    refine jq ?_
    refine jg ?_
    refine jB false ?_
    refine jo ?_
    refine je ?_
    refine WS.pcondF rfl rfl ?_
    refine jq ?_
    refine jg ?_
    refine jB true ?_
    refine jo ?_
    refine je ?_
    refine WS.pcondT rfl rfl ?_
    refine jq ?_
    refine jg ?_
    refine jo ?_
    refine jP ?_
    refine jo ?_
    refine jc [1,2,3] C (by simp [jOb]) (by simp [jEb, jOb, jMb, mapL_cellsR, okL_cellsR]) ?_; rintro _ _ ⟨rfl, rfl⟩ -; simp only [jPg, jMb, ll, Nat.reduceAdd, Nat.reduceLT, Nat.zero_add, if_true, if_false, Nat.reduceSub, reduceIte, mapL_cellsR, Nat.lt_irrefl, Nat.not_lt_zero, Nat.zero_lt_succ, Nat.lt_add_one]
    refine je ?_
    refine jq ?_
    refine jg ?_
    iterate 2 refine jo ?_
    refine jP ?_
    refine js ?_
    refine je ?_
    refine jq ?_
    refine jg ?_
    refine jP ?_
    refine jo ?_
    refine jDF ?_
    refine je ?_
    refine WS.pcondF rfl rfl ?_
    refine WS.pskip rfl ?_
    refine jg ?_
    refine jo ?_
    refine jW ?_
    refine jo ?_
    refine je ?_
    refine WS.nil ?_
    exact ⟨(i + 1, { x with fail := -1 }), ⟨hi, H', hlen, hrd, by simp only; omega, by simp only; omega, hsum⟩, by simp only; omega, (jSn [0,1,2,3,4,5,6,7,8,9] (by simp [jVb, jOb, jMb, mapL_cellsR, okL_cellsR, SSw, WM, ndB, rfB, List.cons_append, List.nil_append]) (by simp only [jSl, jOb, jMb, Nat.reduceAdd, Nat.reduceLT, SSw, WM, ndB, rfB, List.cons_append, List.nil_append] <;> exact jClo))⟩
theorem pw_on (b p np : Nat) (l : List Act) (c i : Nat) (x : NS) (op a short fill : Int) (H : InvW b np l.length (i, x)) (hl : l.length ≤ 40) (hx : l[i]? = some ⟨op, a, short, fill⟩) (hg : goodA ⟨op, a, short, fill⟩) (ho : op = 5) :
    WS Try.prog (frameN Try.f6 3) 1 [.c (k1 (k1 (k2 (k1 (k2 (k2 (k2 (k2 (k2 (k2 (k2 (kb Try.f6))))))))))))] (slt (SSw b p l c (i, x))) (mem 0 (WM l x)) (PostW b p np l c (i, x)) := by
  have hi : i < l.length := (List.getElem?_eq_some_iff.1 hx).1
  obtain ⟨hle, H, hlen, hrd, hpr, her, hsum⟩ := H
  dsimp only at H hlen hrd hpr her hsum
  have hga := wf64 hg.2.1
  dsimp only at hga
  subst ho
  have H' : NOk { x with off := false, cut := -1 } np := nok_of H ⟨rfl, rfl, rfl⟩ H.nx H.wr (by simp only; omega) (by simp only; omega) H.fail1 H.fail2 H.rd1 H.rd2 H.pr1 H.pr2 H.er1 H.er2
  have C := on_walk x
  simp only [ndM] at C
  simp only [SSw, WM, ndB, rfB, List.cons_append, List.nil_append]
  iterate 2 refine jq ?_
  refine jg ?_
  iterate 3 refine jo ?_
  refine jDT ?_
  refine je ?_
  refine WS.pcondT rfl rfl ?_
  refine WS.pskip rfl ?_
  refine jq ?_
  refine WS.pblock rfl ?_
  refine jq ?_
  refine jg ?_
  iterate 2 refine jo ?_
  refine jI ?_
  refine WS.poA (tb := tb) rfl rfl rfl rfl (step_R rfl (evR_loads rfl rfl rfl rfl rfl (by exact (cellsR_part0 (R := rwAct) hx (by exact Nat.le_of_ble_eq_true rfl))) (by exact rfl))) (by simp only [List.drop_zero, List.drop_succ_cons, List.take_succ_cons, List.take_zero, rwBk, rwAct]; exact rfl) ?_
  refine jn ?_
  refine js ?_
  refine je ?_
  refine jq ?_
  refine jg ?_
  refine jP ?_
  refine jo ?_
  refine je ?_
  refine WS.pblock rfl ?_
  refine jq ?_
  refine jg ?_
  refine jB false ?_
  refine jo ?_
  refine je ?_
  refine WS.pcondF rfl rfl ?_
  refine jq ?_
  refine jg ?_
  refine jB false ?_
  refine jo ?_
  refine je ?_
  refine WS.pcondF rfl rfl ?_
  refine jq ?_
  refine jg ?_
  refine jB false ?_
  refine jo ?_
  refine je ?_
  refine WS.pcondF rfl rfl ?_
  refine jq ?_
  refine jg ?_
  refine jB false ?_
  refine jo ?_
  refine je ?_
  refine WS.pcondF rfl rfl ?_
  refine jq ?_
  refine jg ?_
  refine jB true ?_
  refine jo ?_
  refine je ?_
  refine WS.pcondT rfl rfl ?_
  refine jq ?_
  refine jg ?_
  refine jo ?_
  refine jc [1,2,3] C (by simp [jOb]) (by simp [jEb, jOb, jMb, mapL_cellsR, okL_cellsR]) ?_; rintro _ _ ⟨rfl, rfl⟩ -; simp only [jPg, jMb, ll, Nat.reduceAdd, Nat.reduceLT, Nat.zero_add, if_true, if_false, Nat.reduceSub, reduceIte, mapL_cellsR, Nat.lt_irrefl, Nat.not_lt_zero, Nat.zero_lt_succ, Nat.lt_add_one]
  refine je ?_
  refine jq ?_
  refine jg ?_
  iterate 2 refine jo ?_
  refine jP ?_
  refine js ?_
  refine je ?_
  refine jg ?_
  iterate 2 refine jo ?_
  refine jP ?_
  refine js ?_
  refine je ?_
  refine jg ?_
  refine jo ?_
  refine jW ?_
  refine jo ?_
  refine je ?_
  refine WS.nil ?_
  exact ⟨(i + 1, { x with off := false, cut := -1 }), ⟨hi, H', hlen, hrd, by simp only; omega, by simp only; omega, hsum⟩, by simp only; omega, (jSn [0,1,2,3,4,5,6,7,8,9] (by simp [jVb, jOb, jMb, mapL_cellsR, okL_cellsR, SSw, WM, ndB, rfB, List.cons_append, List.nil_append, Bool.not_false]) (by simp only [jSl, jOb, jMb, Nat.reduceAdd, Nat.reduceLT, SSw, WM, ndB, rfB, List.cons_append, List.nil_append, Bool.not_false] <;> exact jClo))⟩
theorem pw_erase (b p np : Nat) (l : List Act) (c i : Nat) (x : NS) (op a short fill : Int) (H : InvW b np l.length (i, x)) (hl : l.length ≤ 40) (hx : l[i]? = some ⟨op, a, short, fill⟩) (hg : goodA ⟨op, a, short, fill⟩) (ho : op = 1) :
    WS Try.prog (frameN Try.f6 3) 1 [.c (k1 (k1 (k2 (k1 (k2 (k2 (k2 (k2 (k2 (k2 (k2 (kb Try.f6))))))))))))] (slt (SSw b p l c (i, x))) (mem 0 (WM l x)) (PostW b p np l c (i, x)) := by
  have hi : i < l.length := (List.getElem?_eq_some_iff.1 hx).1
  obtain ⟨hle, H, hlen, hrd, hpr, her, hsum⟩ := H
  dsimp only at H hlen hrd hpr her hsum
  have hga := wf64 hg.2.1
  dsimp only at hga
  subst ho
  obtain ⟨H', K', q1, q2, q3⟩ := esS_ok H a (by omega)
  have E1 := erase_any x np H a
  have E2 := rerase_any x np H a
  have hw := esS_wear (x := x) a
  generalize hy : esS x a = y at *
  simp only [ndM, rfM] at E1 E2
  have hlen' : y.bk.length = b := K'.len.trans hlen
  simp only [SSw, WM, ndB, rfB, List.cons_append, List.nil_append]
  rcases hw with ⟨w1, w2⟩ | ⟨n, u, rfl, hu, w1, w2⟩
  · refine WS.pseq rfl ?_
    refine jq ?_
    refine jg ?_
    iterate 3 refine jo ?_
    refine jDT ?_
    refine je ?_
    refine WS.pcondT rfl rfl ?_
    refine WS.pskip rfl ?_
    refine jq ?_
    refine WS.pblock rfl ?_
    refine jq ?_
    refine jg ?_
    iterate 2 refine jo ?_
    refine jI ?_
    refine WS.poA (tb := tb) rfl rfl rfl rfl (step_R rfl (evR_loads rfl rfl rfl rfl rfl (by exact (cellsR_part0 (R := rwAct) hx (by exact Nat.le_of_ble_eq_true rfl))) (by exact rfl))) (by simp only [List.drop_zero, List.drop_succ_cons, List.take_succ_cons, List.take_zero, rwBk, rwAct]; exact rfl) ?_
    refine jn ?_
    refine js ?_
    refine je ?_
    refine jq ?_
    refine jg ?_
    refine jP ?_
    refine jo ?_
    refine je ?_
    refine WS.pblock rfl ?_
    refine jq ?_
    refine jg ?_
    refine jB false ?_
    refine jo ?_
    refine je ?_
    refine WS.pcondF rfl rfl ?_
    refine jq ?_
    refine jg ?_
    refine jB true ?_
    refine jo ?_
    refine je ?_
    refine WS.pcondT rfl rfl ?_
    refine jq ?_
    refine jg ?_
    iterate 2 refine jo ?_
    refine jP ?_
    iterate 2 refine jo ?_
    refine je ?_
    refine jq ?_
    refine jg ?_
    refine jo ?_
    refine jP ?_
    refine jo ?_
    refine jc [1,2,3] E1 (by simp [jOb]) (by simp [jEb, jOb, jMb, mapL_cellsR, okL_cellsR]) ?_; rintro _ _ ⟨rfl, rfl⟩ -; simp only [jPg, jMb, ll, Nat.reduceAdd, Nat.reduceLT, Nat.zero_add, if_true, if_false, Nat.reduceSub, reduceIte, mapL_cellsR, Nat.lt_irrefl, Nat.not_lt_zero, Nat.zero_lt_succ, Nat.lt_add_one]
    refine je ?_
    refine jq ?_
    refine jg ?_
    refine jo ?_
    refine jP ?_
    refine jo ?_
    refine jc [4,5,6,7,8] E2 (by simp [jOb]) (by simp [jEb, jOb, jMb, mapL_cellsR, okL_cellsR]) ?_; rintro _ _ ⟨rfl, rfl⟩ -; simp only [jPg, jMb, ll, Nat.reduceAdd, Nat.reduceLT, Nat.zero_add, if_true, if_false, Nat.reduceSub, reduceIte, mapL_cellsR, Nat.lt_irrefl, Nat.not_lt_zero, Nat.zero_lt_succ, Nat.lt_add_one]
    refine je ?_
    refine jq ?_
    refine jg ?_
    iterate 2 refine jo ?_
    refine jP ?_
    iterate 2 refine jo ?_
    refine jDF ?_
    refine je ?_
    refine WS.pcondF rfl rfl ?_
    refine WS.pskip rfl ?_
    refine jg ?_
    refine jo ?_
    refine jW ?_
    refine jo ?_
    refine je ?_
    refine WS.nil ?_
    exact ⟨(i + 1, y), ⟨hi, H', hlen', by simp only; omega, by simp only; omega, by simp only; omega, by simp only [w2, hsum, w1]⟩, by simp only; omega, (jSn [0,1,2,3,4,5,6,7,8,9] (by simp [jVb, jOb, jMb, mapL_cellsR, okL_cellsR, SSw, WM, ndB, rfB, List.cons_append, List.nil_append, w2]) (by simp only [jSl, jOb, jMb, Nat.reduceAdd, Nat.reduceLT, SSw, WM, ndB, rfB, List.cons_append, List.nil_append, w2] <;> exact jClo))⟩
  · have hn : n < b := by have := (List.getElem?_eq_some_iff.1 hu).1; omega
    have g1 := map_get Bk.wear hu
    have huw := H.wr u (List.mem_of_getElem? hu)
    have he2 := H.er2
    have hst := cellsI_set (k := .i64) (xs := x.bk.map Bk.wear) (x := u.wear + 1) (i := n) (by rw [List.length_map]; omega)
    rw [← w2] at hst
    have hs2 : (y.bk.map Bk.wear).sum = y.er := by rw [w2, sum_set g1, hsum, w1]
    iterate 2 refine jq ?_
    refine jg ?_
    iterate 3 refine jo ?_
    refine jDT ?_
    refine je ?_
    refine WS.pcondT rfl rfl ?_
    refine WS.pskip rfl ?_
    refine jq ?_
    refine WS.pblock rfl ?_
    refine jq ?_
    refine jg ?_
    iterate 2 refine jo ?_
    refine jI ?_
    refine WS.poA (tb := tb) rfl rfl rfl rfl (step_R rfl (evR_loads rfl rfl rfl rfl rfl (by exact (cellsR_part0 (R := rwAct) hx (by exact Nat.le_of_ble_eq_true rfl))) (by exact rfl))) (by simp only [List.drop_zero, List.drop_succ_cons, List.take_succ_cons, List.take_zero, rwBk, rwAct]; exact rfl) ?_
    refine jn ?_
    refine js ?_
    refine je ?_
    refine jq ?_
    refine jg ?_
    refine jP ?_
    refine jo ?_
    refine je ?_
    refine WS.pblock rfl ?_
    refine jq ?_
    refine jg ?_
    refine jB false ?_
    refine jo ?_
    refine je ?_
    refine WS.pcondF rfl rfl ?_
    refine jq ?_
    refine jg ?_
    refine jB true ?_
    refine jo ?_
    refine je ?_
    refine WS.pcondT rfl rfl ?_
    refine jq ?_
    refine jg ?_
    iterate 2 refine jo ?_
    refine jP ?_
    iterate 2 refine jo ?_
    refine je ?_
    refine jq ?_
    refine jg ?_
    refine jo ?_
    refine jP ?_
    refine jo ?_
    refine jc [1,2,3] E1 (by simp [jOb]) (by simp [jEb, jOb, jMb, mapL_cellsR, okL_cellsR]) ?_; rintro _ _ ⟨rfl, rfl⟩ -; simp only [jPg, jMb, ll, Nat.reduceAdd, Nat.reduceLT, Nat.zero_add, if_true, if_false, Nat.reduceSub, reduceIte, mapL_cellsR, Nat.lt_irrefl, Nat.not_lt_zero, Nat.zero_lt_succ, Nat.lt_add_one]
    refine je ?_
    refine jq ?_
    refine jg ?_
    refine jo ?_
    refine jP ?_
    refine jo ?_
    refine jc [4,5,6,7,8] E2 (by simp [jOb]) (by simp [jEb, jOb, jMb, mapL_cellsR, okL_cellsR]) ?_; rintro _ _ ⟨rfl, rfl⟩ -; simp only [jPg, jMb, ll, Nat.reduceAdd, Nat.reduceLT, Nat.zero_add, if_true, if_false, Nat.reduceSub, reduceIte, mapL_cellsR, Nat.lt_irrefl, Nat.not_lt_zero, Nat.zero_lt_succ, Nat.lt_add_one]
    refine je ?_
    refine jq ?_
    refine jg ?_
    iterate 2 refine jo ?_
    refine jP ?_
    iterate 2 refine jo ?_
    refine jDT ?_
    refine je ?_
    refine WS.pcondT rfl rfl ?_
    refine jg ?_
    refine jo ?_
    refine jP ?_
    refine jo ?_
    refine jI ?_
    refine WS.po (tb := tb) rfl rfl rfl rfl (step_R rfl (evR_load rfl rfl rfl rfl (cellsI_get g1))) ?_
    refine jW ?_
    refine jI ?_
    refine WS.po0 (tb := tb) rfl rfl rfl rfl (step_H rfl rfl (evH_store rfl rfl rfl rfl rfl (Nat.zero_le _) rfl (by simp [vcells]) (by simp only [Bk_len, Act_len, vcells, List.length_cons, List.length_nil, cellsI_len, cellsB_len, List.length_set, List.length_replicate, List.length_append, List.length_map, List.length_take, List.length_drop]; omega))) ?_; rw [upd_mem _ rfl]; simp only [vcells, List.set_cons_zero, List.set_cons_succ, hst]; (try simp only [setL, List.set_cons_zero, List.set_cons_succ])
    refine je ?_
    refine jg ?_
    refine jo ?_
    refine jW ?_
    refine jo ?_
    refine je ?_
    refine WS.nil ?_
    exact ⟨(i + 1, y), ⟨hi, H', hlen', by simp only; omega, by simp only; omega, by simp only; omega, hs2⟩, by simp only; omega, (jSn [0,1,2,3,4,5,6,7,8,9] (by simp [jVb, jOb, jMb, mapL_cellsR, okL_cellsR, SSw, WM, ndB, rfB, List.cons_append, List.nil_append]) (by simp only [jSl, jOb, jMb, Nat.reduceAdd, Nat.reduceLT, SSw, WM, ndB, rfB, List.cons_append, List.nil_append] <;> exact jClo))⟩
theorem pw_prog (b p np : Nat) (l : List Act) (c i : Nat) (x : NS) (op a short fill : Int) (H : InvW b np l.length (i, x)) (hl : l.length ≤ 40) (hx : l[i]? = some ⟨op, a, short, fill⟩) (hg : goodA ⟨op, a, short, fill⟩) (ho : op = 0) :
    WS Try.prog (frameN Try.f6 3) 1 [.c (k1 (k1 (k2 (k1 (k2 (k2 (k2 (k2 (k2 (k2 (k2 (kb Try.f6))))))))))))] (slt (SSw b p l c (i, x))) (mem 0 (WM l x)) (PostW b p np l c (i, x)) := by
  have hi : i < l.length := (List.getElem?_eq_some_iff.1 hx).1
  obtain ⟨hle, H, hlen, hrd, hpr, her, hsum⟩ := H
  dsimp only at H hlen hrd hpr her hsum
  have hga := wf64 hg.2.1
  dsimp only at hga
  subst ho
  obtain ⟨n, hn⟩ : ∃ n, n = dlen short := ⟨_, rfl⟩
  have hn1 : 1 ≤ n ∧ n ≤ 200 := by rw [hn]; unfold dlen; split <;> omega
  have DW := data_walk 0 a short fill
  rw [← hn] at DW
  have hDl := dtL_len fill n
  generalize dtL fill n = D at *
  obtain ⟨H', K', q1, q2, q3⟩ := pgS_ok H a D (by omega)
  have P1 := program_any x np H a n n false D [] (.inl rfl) hDl (by omega) (by omega)
  have P2 := rprogram_any x np H a n n false D hDl (by omega)
  have hw := pgS_wear H a D
  rw [List.append_nil] at P1
  generalize hy : pgS x np a D = y at *
  have hlen' : y.bk.length = b := K'.len.trans hlen
  have hs2 : (y.bk.map Bk.wear).sum = y.er := by rw [hw, hsum, q3]
  simp only [ndM, rfM, dtB, dtA, List.cons_append, List.nil_append] at P1 P2
  simp only [SSw, WM, ndB, rfB, List.cons_append, List.nil_append]
  iterate 2 refine jq ?_
  refine jg ?_
  iterate 3 refine jo ?_
  refine jDT ?_
  refine je ?_
  refine WS.pcondT rfl rfl ?_
  refine WS.pskip rfl ?_
  refine jq ?_
  refine WS.pblock rfl ?_
  refine jq ?_
  refine jg ?_
  iterate 2 refine jo ?_
  refine jI ?_
  refine WS.poA (tb := tb) rfl rfl rfl rfl (step_R rfl (evR_loads rfl rfl rfl rfl rfl (by exact (cellsR_part0 (R := rwAct) hx (by exact Nat.le_of_ble_eq_true rfl))) (by exact rfl))) (by simp only [List.drop_zero, List.drop_succ_cons, List.take_succ_cons, List.take_zero, rwBk, rwAct]; exact rfl) ?_
  refine jn ?_
  refine js ?_
  refine je ?_
  refine jq ?_
  refine jg ?_
  refine jP ?_
  refine jo ?_
  refine je ?_
  refine WS.pblock rfl ?_
  refine jq ?_
  refine jg ?_
  refine jB true ?_
  refine jo ?_
  refine je ?_
  refine WS.pcondT rfl rfl ?_
  refine jq ?_
  have conv1 : ∀ k : List Fm, ∀ S : List (Nat × V), ∀ M : List (Option Blk), ∀ f : Nat, ∀ A : Array Bool, ∀ cc : Code, Region.ready .any (kops cc) A = [] → SeenBy [0,1,2,3,4,5,6,7,8,9,10] 1 S M [(0, .i .i64 b), (1, .i .i64 p), (2, .sl (some (0,0)) l.length c false), (7, .p (some (3,0))), (9, .p (some (8,0))), (10, .sl (some (9,0)) b b false), (11, .i .i64 i), (12, .p (some (10,0)))] ([some ⟨cellsR rwAct l, 38, false⟩] ++ ndB 1 y ++ rfB 4 x ++ [some ⟨cellsR (rwI .i64) (x.bk.map Bk.wear), 3, true⟩, some ⟨[.i .i64 0, .i .i64 a, .i .i64 short, .i .u8 fill], 38, true⟩]) → WS Try.prog (frameN Try.f6 3) 1 k (slt [(0, .i .i64 b), (1, .i .i64 p), (2, .sl (some (0,0)) l.length c false), (7, .p (some (3,0))), (9, .p (some (8,0))), (10, .sl (some (9,0)) b b false), (11, .i .i64 i), (12, .p (some (10,0)))]) (mem 0 ([some ⟨cellsR rwAct l, 38, false⟩] ++ ndB 1 y ++ rfB 4 x ++ [some ⟨cellsR (rwI .i64) (x.bk.map Bk.wear), 3, true⟩, some ⟨[.i .i64 0, .i .i64 a, .i .i64 short, .i .u8 fill], 38, true⟩])) (PostW b p np l c (i, x)) → WA Try.prog (frameN Try.f6 3) 1 cc f A k (slt S) (mem 0 M) (PostW b p np l c (i, x)) :=
    fun k S M f A cc hr V w => WA.seen _ hr V w
  have conv2 : ∀ k : List Fm, ∀ S : List (Nat × V), ∀ M : List (Option Blk), ∀ f : Nat, ∀ A : Array Bool, ∀ cc : Code, Region.ready .any (kops cc) A = [] → SeenBy [0,1,2,3,4,5,6,7,8,9,10] 1 S M [(0, .i .i64 b), (1, .i .i64 p), (2, .sl (some (0,0)) l.length c false), (7, .p (some (3,0))), (9, .p (some (8,0))), (10, .sl (some (9,0)) b b false), (11, .i .i64 i), (12, .p (some (10,0)))] (WM l y ++ [some ⟨[.i .i64 0, .i .i64 a, .i .i64 short, .i .u8 fill], 38, true⟩]) → WS Try.prog (frameN Try.f6 3) 1 k (slt [(0, .i .i64 b), (1, .i .i64 p), (2, .sl (some (0,0)) l.length c false), (7, .p (some (3,0))), (9, .p (some (8,0))), (10, .sl (some (9,0)) b b false), (11, .i .i64 i), (12, .p (some (10,0)))]) (mem 0 (WM l y ++ [some ⟨[.i .i64 0, .i .i64 a, .i .i64 short, .i .u8 fill], 38, true⟩])) (PostW b p np l c (i, x)) → WA Try.prog (frameN Try.f6 3) 1 cc f A k (slt S) (mem 0 M) (PostW b p np l c (i, x)) :=
    fun k S M f A cc hr V w => WA.seen _ hr V w
  have rest2 : WS Try.prog (frameN Try.f6 3) 1 [.b (kid (k2 (k2 (k1 (k1 (k2 (k1 (k1 (k2 (k1 (k2 (k2 (k2 (k2 (k2 (k2 (k2 (kb Try.f6)))))))))))))))))), .b (kid (k1 (k2 (k1 (k1 (k2 (k1 (k2 (k2 (k2 (k2 (k2 (k2 (k2 (kb Try.f6))))))))))))))), .c (k2 (k2 (k1 (k1 (k2 (k1 (k2 (k2 (k2 (k2 (k2 (k2 (k2 (kb Try.f6))))))))))))))] (slt [(0, .i .i64 b), (1, .i .i64 p), (2, .sl (some (0,0)) l.length c false), (7, .p (some (3,0))), (9, .p (some (8,0))), (10, .sl (some (9,0)) b b false), (11, .i .i64 i), (12, .p (some (10,0)))]) (mem 0 (WM l y ++ [some ⟨[.i .i64 0, .i .i64 a, .i .i64 short, .i .u8 fill], 38, true⟩])) (PostW b p np l c (i, x)) := by
    simp only [WM, ndB, rfB, List.cons_append, List.nil_append]
    refine jg ?_
    refine jo ?_
    refine jW ?_
    refine jo ?_
    refine je ?_
    refine WS.nil ?_
    exact ⟨(i + 1, y), ⟨hi, H', hlen', by simp only; omega, by simp only; omega, by simp only; omega, hs2⟩, by simp only; omega, (jSn [0,1,2,3,4,5,6,7,8,9] (by simp [jVb, jOb, jMb, mapL_cellsR, okL_cellsR, SSw, WM, ndB, rfB, List.cons_append, List.nil_append]) (by simp only [jSl, jOb, jMb, Nat.reduceAdd, Nat.reduceLT, SSw, WM, ndB, rfB, List.cons_append, List.nil_append] <;> exact jClo))⟩
  have rest1 : WS Try.prog (frameN Try.f6 3) 1 [.c (k2 (k1 (k2 (k1 (k2 (k2 (k1 (k1 (k2 (k1 (k1 (k2 (k1 (k2 (k2 (k2 (k2 (k2 (k2 (k2 (kb Try.f6))))))))))))))))))))), .b (kid (k2 (k2 (k1 (k1 (k2 (k1 (k1 (k2 (k1 (k2 (k2 (k2 (k2 (k2 (k2 (k2 (kb Try.f6)))))))))))))))))), .b (kid (k1 (k2 (k1 (k1 (k2 (k1 (k2 (k2 (k2 (k2 (k2 (k2 (k2 (kb Try.f6))))))))))))))), .c (k2 (k2 (k1 (k1 (k2 (k1 (k2 (k2 (k2 (k2 (k2 (k2 (k2 (kb Try.f6))))))))))))))] (slt [(0, .i .i64 b), (1, .i .i64 p), (2, .sl (some (0,0)) l.length c false), (7, .p (some (3,0))), (9, .p (some (8,0))), (10, .sl (some (9,0)) b b false), (11, .i .i64 i), (12, .p (some (10,0)))]) (mem 0 ([some ⟨cellsR rwAct l, 38, false⟩] ++ ndB 1 y ++ rfB 4 x ++ [some ⟨cellsR (rwI .i64) (x.bk.map Bk.wear), 3, true⟩, some ⟨[.i .i64 0, .i .i64 a, .i .i64 short, .i .u8 fill], 38, true⟩])) (PostW b p np l c (i, x)) := by
    simp only [ndB, rfB, List.cons_append, List.nil_append]
    refine WS.panyN 6 rfl (by kernel_rfl) rfl ?_
    refine WA.p (tb := tb) 0 rfl rfl (by kernel_rfl) (by kernel_rfl) (by kernel_rfl) rfl rfl rfl ?_
    refine WA.p (tb := tb) 1 rfl rfl (by kernel_rfl) (by kernel_rfl) (by kernel_rfl) rfl rfl rfl ?_
    refine WA.o2 2 3 (by kernel_rfl) ?_ ?_
    · refine WO.step (tb := tb) rfl rfl rfl rfl rfl ?_
      refine WA.o1 3 (by kernel_rfl) ?_
      refine WO.step (tb := tb) rfl rfl rfl rfl rfl ?_
      refine WA.o1 4 (by kernel_rfl) ?_
      refine WO.callM (tb := tb) [] DW rfl rfl rfl rfl rfl (by (try simp only [mapL, mapV, ll]) <;> exact rfl) (by simp [okL, okV, ndM, rfM]; fail_if_success exfalso) rfl (by simp [embP, okL, okV, mapL, mapV, mem_next, mem_get, mem_ro, mapL_cellsR, okL_cellsR, ndM, rfM]; fail_if_success exfalso) rfl ?_; rintro _ _ ⟨rfl, rfl⟩ -; simp only [jPg, jMb, ll, Nat.reduceAdd, Nat.reduceLT, Nat.zero_add, if_true, if_false, Nat.reduceSub, reduceIte, mapL_cellsR, Nat.lt_irrefl, Nat.not_lt_zero, Nat.zero_lt_succ, Nat.lt_add_one]
      refine WA.o1 5 (by kernel_rfl) ?_
      refine WO.callM (tb := tb) [4,5,6,7,8,11] P2 rfl rfl rfl rfl rfl (by (try simp only [mapL, mapV, ll]) <;> exact rfl) (by simp [okL, okV, ndM, rfM]; fail_if_success exfalso) rfl (by simp [embP, okL, okV, mapL, mapV, mem_next, mem_get, mem_ro, mapL_cellsR, okL_cellsR, ndM, rfM]; fail_if_success exfalso) rfl ?_; rintro _ _ ⟨rfl, rfl⟩ -; simp only [jPg, jMb, ll, Nat.reduceAdd, Nat.reduceLT, Nat.zero_add, if_true, if_false, Nat.reduceSub, reduceIte, mapL_cellsR, Nat.lt_irrefl, Nat.not_lt_zero, Nat.zero_lt_succ, Nat.lt_add_one]
      refine conv2 _ _ _ _ _ _ (by kernel_rfl) (jSb (by simp [jVb, jOb, jMb, mapL_cellsR, okL_cellsR, WM, ndB, rfB, List.cons_append, List.nil_append, hw]) (by simp only [jSl, jOb, jMb, Nat.reduceAdd, Nat.reduceLT, WM, ndB, rfB, List.cons_append, List.nil_append, hw] <;> exact jClo)) ?_
      exact rest2
    · refine WO.step (tb := tb) rfl rfl rfl rfl rfl ?_
      refine WA.o2 2 4 (by kernel_rfl) ?_ ?_
      · refine WO.step (tb := tb) rfl rfl rfl rfl rfl ?_
        refine WA.o1 4 (by kernel_rfl) ?_
        refine WO.callM (tb := tb) [] DW rfl rfl rfl rfl rfl (by (try simp only [mapL, mapV, ll]) <;> exact rfl) (by simp [okL, okV, ndM, rfM]; fail_if_success exfalso) rfl (by simp [embP, okL, okV, mapL, mapV, mem_next, mem_get, mem_ro, mapL_cellsR, okL_cellsR, ndM, rfM]; fail_if_success exfalso) rfl ?_; rintro _ _ ⟨rfl, rfl⟩ -; simp only [jPg, jMb, ll, Nat.reduceAdd, Nat.reduceLT, Nat.zero_add, if_true, if_false, Nat.reduceSub, reduceIte, mapL_cellsR, Nat.lt_irrefl, Nat.not_lt_zero, Nat.zero_lt_succ, Nat.lt_add_one]
        refine WA.o1 5 (by kernel_rfl) ?_
        refine WO.callM (tb := tb) [4,5,6,7,8,11] P2 rfl rfl rfl rfl rfl (by (try simp only [mapL, mapV, ll]) <;> exact rfl) (by simp [okL, okV, ndM, rfM]; fail_if_success exfalso) rfl (by simp [embP, okL, okV, mapL, mapV, mem_next, mem_get, mem_ro, mapL_cellsR, okL_cellsR, ndM, rfM]; fail_if_success exfalso) rfl ?_; rintro _ _ ⟨rfl, rfl⟩ -; simp only [jPg, jMb, ll, Nat.reduceAdd, Nat.reduceLT, Nat.zero_add, if_true, if_false, Nat.reduceSub, reduceIte, mapL_cellsR, Nat.lt_irrefl, Nat.not_lt_zero, Nat.zero_lt_succ, Nat.lt_add_one]
        refine conv2 _ _ _ _ _ _ (by kernel_rfl) (jSb (by simp [jVb, jOb, jMb, mapL_cellsR, okL_cellsR, WM, ndB, rfB, List.cons_append, List.nil_append, hw]) (by simp only [jSl, jOb, jMb, Nat.reduceAdd, Nat.reduceLT, WM, ndB, rfB, List.cons_append, List.nil_append, hw] <;> exact jClo)) ?_
        exact rest2
      · refine WO.callM (tb := tb) [] DW rfl rfl rfl rfl rfl (by (try simp only [mapL, mapV, ll]) <;> exact rfl) (by simp [okL, okV, ndM, rfM]; fail_if_success exfalso) rfl (by simp [embP, okL, okV, mapL, mapV, mem_next, mem_get, mem_ro, mapL_cellsR, okL_cellsR, ndM, rfM]; fail_if_success exfalso) rfl ?_; rintro _ _ ⟨rfl, rfl⟩ -; simp only [jPg, jMb, ll, Nat.reduceAdd, Nat.reduceLT, Nat.zero_add, if_true, if_false, Nat.reduceSub, reduceIte, mapL_cellsR, Nat.lt_irrefl, Nat.not_lt_zero, Nat.zero_lt_succ, Nat.lt_add_one]
        refine WA.o1 2 (by kernel_rfl) ?_
        refine WO.step (tb := tb) rfl rfl rfl rfl rfl ?_
        refine WA.o1 5 (by kernel_rfl) ?_
        refine WO.callM (tb := tb) [4,5,6,7,8,11] P2 rfl rfl rfl rfl rfl (by (try simp only [mapL, mapV, ll]) <;> exact rfl) (by simp [okL, okV, ndM, rfM]; fail_if_success exfalso) rfl (by simp [embP, okL, okV, mapL, mapV, mem_next, mem_get, mem_ro, mapL_cellsR, okL_cellsR, ndM, rfM]; fail_if_success exfalso) rfl ?_; rintro _ _ ⟨rfl, rfl⟩ -; simp only [jPg, jMb, ll, Nat.reduceAdd, Nat.reduceLT, Nat.zero_add, if_true, if_false, Nat.reduceSub, reduceIte, mapL_cellsR, Nat.lt_irrefl, Nat.not_lt_zero, Nat.zero_lt_succ, Nat.lt_add_one]
        refine conv2 _ _ _ _ _ _ (by kernel_rfl) (jSb (by simp [jVb, jOb, jMb, mapL_cellsR, okL_cellsR, WM, ndB, rfB, List.cons_append, List.nil_append, hw]) (by simp only [jSl, jOb, jMb, Nat.reduceAdd, Nat.reduceLT, WM, ndB, rfB, List.cons_append, List.nil_append, hw] <;> exact jClo)) ?_
        exact rest2
  simp only [ndB, rfB, WM, List.cons_append, List.nil_append] at rest1 rest2
  refine WS.panyN 6 rfl (by kernel_rfl) rfl ?_
  refine WA.p (tb := tb) 0 rfl rfl (by kernel_rfl) (by kernel_rfl) (by kernel_rfl) rfl rfl rfl ?_
  refine WA.p (tb := tb) 1 rfl rfl (by kernel_rfl) (by kernel_rfl) (by kernel_rfl) rfl rfl rfl ?_
  refine WA.o2 2 3 (by kernel_rfl) ?_ ?_
  · refine WO.step (tb := tb) rfl rfl rfl rfl rfl ?_
    refine WA.o1 3 (by kernel_rfl) ?_
    refine WO.step (tb := tb) rfl rfl rfl rfl rfl ?_
    refine WA.o1 4 (by kernel_rfl) ?_
    refine WO.callM (tb := tb) [] DW rfl rfl rfl rfl rfl (by (try simp only [mapL, mapV, ll]) <;> exact rfl) (by simp [okL, okV, ndM, rfM]; fail_if_success exfalso) rfl (by simp [embP, okL, okV, mapL, mapV, mem_next, mem_get, mem_ro, mapL_cellsR, okL_cellsR, ndM, rfM]; fail_if_success exfalso) rfl ?_; rintro _ _ ⟨rfl, rfl⟩ -; simp only [jPg, jMb, ll, Nat.reduceAdd, Nat.reduceLT, Nat.zero_add, if_true, if_false, Nat.reduceSub, reduceIte, mapL_cellsR, Nat.lt_irrefl, Nat.not_lt_zero, Nat.zero_lt_succ, Nat.lt_add_one]
    refine WA.o1 5 (by kernel_rfl) ?_
    refine WO.callM (tb := tb) [1,2,3,11] P1 rfl rfl rfl rfl rfl (by (try simp only [mapL, mapV, ll]) <;> exact rfl) (by simp [okL, okV, ndM, rfM]; fail_if_success exfalso) rfl (by simp [embP, okL, okV, mapL, mapV, mem_next, mem_get, mem_ro, mapL_cellsR, okL_cellsR, ndM, rfM]; fail_if_success exfalso) rfl ?_; rintro _ _ ⟨rfl, rfl⟩ -; simp only [jPg, jMb, ll, Nat.reduceAdd, Nat.reduceLT, Nat.zero_add, if_true, if_false, Nat.reduceSub, reduceIte, mapL_cellsR, Nat.lt_irrefl, Nat.not_lt_zero, Nat.zero_lt_succ, Nat.lt_add_one]
    refine conv1 _ _ _ _ _ _ (by kernel_rfl) (jSb (by simp [jVb, jOb, jMb, mapL_cellsR, okL_cellsR, WM, ndB, rfB, List.cons_append, List.nil_append, hw]) (by simp only [jSl, jOb, jMb, Nat.reduceAdd, Nat.reduceLT, WM, ndB, rfB, List.cons_append, List.nil_append, hw] <;> exact jClo)) ?_
    exact rest1
  · refine WO.step (tb := tb) rfl rfl rfl rfl rfl ?_
    refine WA.o2 2 4 (by kernel_rfl) ?_ ?_
    · refine WO.step (tb := tb) rfl rfl rfl rfl rfl ?_
      refine WA.o1 4 (by kernel_rfl) ?_
      refine WO.callM (tb := tb) [] DW rfl rfl rfl rfl rfl (by (try simp only [mapL, mapV, ll]) <;> exact rfl) (by simp [okL, okV, ndM, rfM]; fail_if_success exfalso) rfl (by simp [embP, okL, okV, mapL, mapV, mem_next, mem_get, mem_ro, mapL_cellsR, okL_cellsR, ndM, rfM]; fail_if_success exfalso) rfl ?_; rintro _ _ ⟨rfl, rfl⟩ -; simp only [jPg, jMb, ll, Nat.reduceAdd, Nat.reduceLT, Nat.zero_add, if_true, if_false, Nat.reduceSub, reduceIte, mapL_cellsR, Nat.lt_irrefl, Nat.not_lt_zero, Nat.zero_lt_succ, Nat.lt_add_one]
      refine WA.o1 5 (by kernel_rfl) ?_
      refine WO.callM (tb := tb) [1,2,3,11] P1 rfl rfl rfl rfl rfl (by (try simp only [mapL, mapV, ll]) <;> exact rfl) (by simp [okL, okV, ndM, rfM]; fail_if_success exfalso) rfl (by simp [embP, okL, okV, mapL, mapV, mem_next, mem_get, mem_ro, mapL_cellsR, okL_cellsR, ndM, rfM]; fail_if_success exfalso) rfl ?_; rintro _ _ ⟨rfl, rfl⟩ -; simp only [jPg, jMb, ll, Nat.reduceAdd, Nat.reduceLT, Nat.zero_add, if_true, if_false, Nat.reduceSub, reduceIte, mapL_cellsR, Nat.lt_irrefl, Nat.not_lt_zero, Nat.zero_lt_succ, Nat.lt_add_one]
      refine conv1 _ _ _ _ _ _ (by kernel_rfl) (jSb (by simp [jVb, jOb, jMb, mapL_cellsR, okL_cellsR, WM, ndB, rfB, List.cons_append, List.nil_append, hw]) (by simp only [jSl, jOb, jMb, Nat.reduceAdd, Nat.reduceLT, WM, ndB, rfB, List.cons_append, List.nil_append, hw] <;> exact jClo)) ?_
      exact rest1
    · refine WO.callM (tb := tb) [] DW rfl rfl rfl rfl rfl (by (try simp only [mapL, mapV, ll]) <;> exact rfl) (by simp [okL, okV, ndM, rfM]; fail_if_success exfalso) rfl (by simp [embP, okL, okV, mapL, mapV, mem_next, mem_get, mem_ro, mapL_cellsR, okL_cellsR, ndM, rfM]; fail_if_success exfalso) rfl ?_; rintro _ _ ⟨rfl, rfl⟩ -; simp only [jPg, jMb, ll, Nat.reduceAdd, Nat.reduceLT, Nat.zero_add, if_true, if_false, Nat.reduceSub, reduceIte, mapL_cellsR, Nat.lt_irrefl, Nat.not_lt_zero, Nat.zero_lt_succ, Nat.lt_add_one]
      refine WA.o1 2 (by kernel_rfl) ?_
      refine WO.step (tb := tb) rfl rfl rfl rfl rfl ?_
      refine WA.o1 5 (by kernel_rfl) ?_
      refine WO.callM (tb := tb) [1,2,3,11] P1 rfl rfl rfl rfl rfl (by (try simp only [mapL, mapV, ll]) <;> exact rfl) (by simp [okL, okV, ndM, rfM]; fail_if_success exfalso) rfl (by simp [embP, okL, okV, mapL, mapV, mem_next, mem_get, mem_ro, mapL_cellsR, okL_cellsR, ndM, rfM]; fail_if_success exfalso) rfl ?_; rintro _ _ ⟨rfl, rfl⟩ -; simp only [jPg, jMb, ll, Nat.reduceAdd, Nat.reduceLT, Nat.zero_add, if_true, if_false, Nat.reduceSub, reduceIte, mapL_cellsR, Nat.lt_irrefl, Nat.not_lt_zero, Nat.zero_lt_succ, Nat.lt_add_one]
      refine conv1 _ _ _ _ _ _ (by kernel_rfl) (jSb (by simp [jVb, jOb, jMb, mapL_cellsR, okL_cellsR, WM, ndB, rfB, List.cons_append, List.nil_append, hw]) (by simp only [jSl, jOb, jMb, Nat.reduceAdd, Nat.reduceLT, WM, ndB, rfB, List.cons_append, List.nil_append, hw] <;> exact jClo)) ?_
      exact rest1
end Go.Proofs.Ytmkolibmadbenaa.Am

