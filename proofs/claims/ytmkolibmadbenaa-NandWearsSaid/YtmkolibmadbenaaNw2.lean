/- NandWears answers true for any sizes and calls, in every world. Conditions: the calls lie in memory. -/
import Derived.Test.YtmkolibmadbenaaAm5
import Derived.Test.YtmkolibmadbenaaNw1
import Derived.Test.YtmkolibmadbenaaNd1b
namespace Go.Proofs.Ytmkolibmadbenaa.Am
open Go.Proofs
set_option maxRecDepth 1000000
set_option maxHeartbeats 4000000
set_option linter.unusedSimpArgs false
set_option linter.unusedVariables false
theorem pw_all (b p np : Nat) (l : List Act) (c : Nat) (hl : l.length ≤ 40) (hg : ∀ y ∈ l, goodA y) (s : StP) (H : InvW b np l.length s) :
    WS Try.prog (frameN Try.f6 3) 1 [.c (k1 (k1 (k2 (k1 (k2 (k2 (k2 (k2 (k2 (k2 (k2 (kb Try.f6))))))))))))] (slt (SSw b p l c s)) (mem 0 (WM l s.2)) (PostW b p np l c s) := by
  obtain ⟨i, x⟩ := s
  by_cases h : i < l.length
  · obtain ⟨y, hx⟩ : ∃ y, l[i]? = some y := ⟨_, List.getElem?_eq_getElem h⟩
    have hgy := hg y (List.mem_of_getElem? hx)
    obtain ⟨op, a, short, fill⟩ := y
    by_cases o0 : op = 0
    · exact pw_prog b p np l c i x op a short fill H hl hx hgy o0
    · by_cases o1 : op = 1
      · exact pw_erase b p np l c i x op a short fill H hl hx hgy o1
      · by_cases o3 : op = 3
        · exact pw_cut b p np l c i x op a short fill H hl hx hgy o3
        · by_cases o4 : op = 4
          · exact pw_fail b p np l c i x op a short fill H hl hx hgy o4
          · by_cases o5 : op = 5
            · exact pw_on b p np l c i x op a short fill H hl hx hgy o5
            · exact pw_none b p np l c i x op a short fill H hl hx hgy ⟨o0, o1, o3, o4, o5⟩
  · have hle := H.le
    dsimp only at hle
    obtain rfl : i = l.length := by omega
    simp only [SSw, WM, ndB, rfB, List.cons_append, List.nil_append]
    iterate 2 refine jq ?_
    refine jg ?_
    iterate 3 refine jo ?_
    refine jDF ?_
    refine je ?_
    refine WS.pcondF rfl rfl ?_
    refine WS.pout rfl rfl ?_
    exact ⟨rfl, x, H, (jSn [0,1,2,3,4,5,6,7,8,9] (by simp [jVb, jOb, jMb, mapL_cellsR, okL_cellsR, WM, ndB, rfB, List.cons_append, List.nil_append]) (by simp only [jSl, jOb, jMb, Nat.reduceAdd, Nat.reduceLT, WM, ndB, rfB, List.cons_append, List.nil_append] <;> exact jClo))⟩
theorem sum_take {W : List Int} {j : Nat} {w : Int} (h : W[j]? = some w) : (W.take (j + 1)).sum = (W.take j).sum + w := by
  rw [List.take_add_one, h]; simp
theorem sum_nn {W : List Int} (h : ∀ w ∈ W, 0 ≤ w ∧ w ≤ 1000) : ∀ j, j ≤ W.length → 0 ≤ (W.take j).sum ∧ (W.take j).sum ≤ 1000 * j
  | 0, _ => by simp
  | j + 1, hj => by
    obtain ⟨w, hw⟩ : ∃ w, W[j]? = some w := ⟨_, List.getElem?_eq_getElem (by omega)⟩
    have h1 := sum_nn h j (by omega)
    have h2 := h w (List.mem_of_getElem? hw)
    rw [sum_take hw]; omega
theorem wears_end (b p np : Nat) (l : List Act) (x : NS) (h2 : b ≤ 8) (HI : InvW b np l.length (l.length, x)) (hl : l.length ≤ 40) :
    WS Try.prog (frameN Try.f6 3) 1 [.c (k2 (k2 (k2 (k2 (k2 (k2 (k2 (k2 (kb Try.f6)))))))))] (slt [(0, .i .i64 b), (1, .i .i64 p), (7, .p (some (3,0))), (10, .sl (some (9,0)) b b false)]) (mem 0 (WM l x)) (fun x t' h' => (x = .n ∨ x = .r) ∧ ∃ v, resV tb t' h' (Try.f6).results.toList = some v ∧ ∃ M', h' = mem 0 M' ∧ v = .b true) := by
  obtain ⟨hle, H, hlen, hrd, hpr, her, hsum⟩ := HI
  dsimp only at H hlen hrd hpr her hsum
  have hwb : ∀ w ∈ x.bk.map Bk.wear, 0 ≤ w ∧ w ≤ 1000 := fun w hw => by
    obtain ⟨y, hy, rfl⟩ := List.mem_map.1 hw
    have := H.wr y hy
    omega
  have hwl : (x.bk.map Bk.wear).length = b := by rw [List.length_map, hlen]
  simp only [WM, ndB, rfB, List.cons_append, List.nil_append]
  refine jq ?_
  refine jg ?_
  refine jo ?_
  refine je ?_
  iterate 2 refine jq ?_
  refine jg ?_
  refine jo ?_
  refine je ?_
  refine WS.pblock rfl ?_
  refine WS.ploopI (σ := Nat) (τ := Unit) (fun i => [(0, .i .i64 b), (7, .p (some (3,0))), (10, .sl (some (9,0)) b b false), (14, .i .i64 ((x.bk.map Bk.wear).take (i - 1)).sum), (15, .i .i64 ((i : Int) - 1))]) (fun _ => WM l x) (fun i => i ≤ b + 2) (fun i => b + 2 - i)
    (fun _ => [(7, .p (some (3,0))), (14, .i .i64 x.er)]) (fun _ => WM l x) (fun _ => True) 3 [0,1,2,3,4,5,6,7,8,9] 0 rfl (Nat.zero_le _) (jSb (by simp [jVb, jOb, jMb, mapL_cellsR, okL_cellsR, WM, ndB, rfB, List.cons_append, List.nil_append]) (by simp only [jSl, jOb, jMb, Nat.reduceAdd, Nat.reduceLT, WM, ndB, rfB, List.cons_append, List.nil_append] <;> exact jClo)) rfl ?_ ?_
  · intro i hi
    have N1 := wear_no x ((i : Int) - 1)
    simp only [ndR] at N1
    simp only [WM, ndB, rfB, List.cons_append, List.nil_append]
    by_cases i0 : i = 0
    · have N1 := N1 (by omega) (by omega)
      have es : ((x.bk.map Bk.wear).take (i + 1 - 1)).sum = ((x.bk.map Bk.wear).take (i - 1)).sum := by rw [i0]
      iterate 2 refine jq ?_
      refine jg ?_
      iterate 2 refine jo ?_
      refine jDT ?_
      refine je ?_
      refine WS.pcondT rfl rfl ?_
      refine WS.pskip rfl ?_
      refine jq ?_
      refine WS.pblock rfl ?_
      refine jq ?_
      refine jg ?_
      iterate 2 refine jo ?_
      refine jc [1,2,3] N1 (by simp [jOb]) (by simp [jEb, jOb, jMb, mapL_cellsR, okL_cellsR]) ?_; rintro _ _ ⟨rfl, rfl⟩ -; simp only [jPg, jMb, ll, Nat.reduceAdd, Nat.reduceLT, Nat.zero_add, if_true, if_false, Nat.reduceSub, reduceIte, mapL_cellsR, Nat.lt_irrefl, Nat.not_lt_zero, Nat.zero_lt_succ, Nat.lt_add_one]
      iterate 5 refine jo ?_
      refine je ?_
      iterate 2 refine jq ?_
      refine jg ?_
      refine jo ?_
      refine jDT ?_
      refine jo ?_
      iterate 3 refine jN ?_
      refine jo ?_
      refine je ?_
      refine WS.pcondT rfl rfl ?_
      iterate 2 refine jq ?_
      refine jg ?_
      refine jo ?_
      refine jB false ?_
      iterate 2 refine jo ?_
      refine jB false ?_
      refine jo ?_
      refine je ?_
      refine WS.pcondF rfl rfl ?_
      refine WS.pskip rfl ?_
      refine WS.pexit rfl rfl ?_
      refine jg ?_
      refine jo ?_
      refine jW ?_
      refine jo ?_
      refine je ?_
      refine WS.nil ?_
      exact ⟨i + 1, by omega, by omega, (jSn [0,1,2,3,4,5,6,7,8,9] (by simp [jVb, jOb, jMb, mapL_cellsR, okL_cellsR, WM, ndB, rfB, List.cons_append, List.nil_append, es]) (by simp only [jSl, jOb, jMb, Nat.reduceAdd, Nat.reduceLT, WM, ndB, rfB, List.cons_append, List.nil_append, es] <;> exact jClo))⟩
    · by_cases i1 : i ≤ b
      · obtain ⟨j, rfl⟩ : ∃ j, i = j + 1 := ⟨i - 1, by omega⟩
        have ej : (((j + 1 : Nat) : Int) - 1) = (j : Int) := by omega
        obtain ⟨y, hy⟩ : ∃ y, x.bk[j]? = some y := ⟨_, List.getElem?_eq_getElem (by omega)⟩
        have Y1 := wear_yes x j y hy (by omega)
        have g1 := map_get Bk.wear hy
        have es : ((x.bk.map Bk.wear).take (j + 1 + 1 - 1)).sum = ((x.bk.map Bk.wear).take (j + 1 - 1)).sum + y.wear := by
          rw [Nat.add_sub_cancel, Nat.add_sub_cancel]; exact sum_take g1
        have hb1 := sum_nn hwb (j + 1 - 1) (by omega)
        have hyw := hwb y.wear (List.mem_of_getElem? g1)
        simp only [ndR] at Y1
        simp only [ej]
        generalize ((x.bk.map Bk.wear).take (j + 1 - 1)).sum = sm at *
        iterate 2 refine jq ?_
        refine jg ?_
        iterate 2 refine jo ?_
        refine jDT ?_
        refine je ?_
        refine WS.pcondT rfl rfl ?_
        refine WS.pskip rfl ?_
        refine jq ?_
        refine WS.pblock rfl ?_
        refine jq ?_
        refine jg ?_
        iterate 2 refine jo ?_
        refine jc [1,2,3] Y1 (by simp [jOb]) (by simp [jEb, jOb, jMb, mapL_cellsR, okL_cellsR]) ?_; rintro _ _ ⟨rfl, rfl⟩ -; simp only [jPg, jMb, ll, Nat.reduceAdd, Nat.reduceLT, Nat.zero_add, if_true, if_false, Nat.reduceSub, reduceIte, mapL_cellsR, Nat.lt_irrefl, Nat.not_lt_zero, Nat.zero_lt_succ, Nat.lt_add_one]
        iterate 5 refine jo ?_
        refine je ?_
        iterate 2 refine jq ?_
        refine jg ?_
        refine jo ?_
        refine jB false ?_
        iterate 3 refine jo ?_
        refine jDF ?_
        refine jo ?_
        refine je ?_
        refine WS.pcondF rfl rfl ?_
        refine WS.pskip rfl ?_
        iterate 2 refine jq ?_
        refine jg ?_
        refine jo ?_
        refine jB false ?_
        iterate 4 refine jo ?_
        refine jI ?_
        refine WS.po (tb := tb) rfl rfl rfl rfl (step_R rfl (evR_load rfl rfl rfl rfl (cellsI_get g1))) ?_
        refine jNF ?_
        refine jo ?_
        refine je ?_
        refine WS.pcondF rfl rfl ?_
        refine WS.pskip rfl ?_
        refine jg ?_
        iterate 2 refine jo ?_
        refine jW ?_
        refine jo ?_
        refine je ?_
        refine jg ?_
        refine jo ?_
        refine jW ?_
        refine jo ?_
        refine je ?_
        refine WS.nil ?_
        have ek : (j : Int) + 1 = (((j + 1 + 1 : Nat) : Int) - 1) := by omega
        exact ⟨j + 1 + 1, by omega, by omega, (jSn [0,1,2,3,4,5,6,7,8,9] (by simp [jVb, jOb, jMb, mapL_cellsR, okL_cellsR, WM, ndB, rfB, List.cons_append, List.nil_append, es]) (by simp only [jSl, jOb, jMb, Nat.reduceAdd, Nat.reduceLT, WM, ndB, rfB, List.cons_append, List.nil_append, es] <;> exact jClo))⟩
      · have e1 : ((x.bk.map Bk.wear).take (i - 1)).sum = x.er := by rw [List.take_of_length_le (by omega)]; exact hsum
        by_cases i2 : i = b + 1
        · have N1 := N1 (by omega) (by omega)
          have e2 : ((x.bk.map Bk.wear).take (i + 1 - 1)).sum = x.er := by rw [List.take_of_length_le (by omega)]; exact hsum
          simp only [e1]
          iterate 2 refine jq ?_
          refine jg ?_
          iterate 2 refine jo ?_
          refine jDT ?_
          refine je ?_
          refine WS.pcondT rfl rfl ?_
          refine WS.pskip rfl ?_
          refine jq ?_
          refine WS.pblock rfl ?_
          refine jq ?_
          refine jg ?_
          iterate 2 refine jo ?_
          refine jc [1,2,3] N1 (by simp [jOb]) (by simp [jEb, jOb, jMb, mapL_cellsR, okL_cellsR]) ?_; rintro _ _ ⟨rfl, rfl⟩ -; simp only [jPg, jMb, ll, Nat.reduceAdd, Nat.reduceLT, Nat.zero_add, if_true, if_false, Nat.reduceSub, reduceIte, mapL_cellsR, Nat.lt_irrefl, Nat.not_lt_zero, Nat.zero_lt_succ, Nat.lt_add_one]
          iterate 5 refine jo ?_
          refine je ?_
          iterate 2 refine jq ?_
          refine jg ?_
          refine jo ?_
          refine jDF ?_
          iterate 3 refine jo ?_
          refine jDT ?_
          refine jo ?_
          refine je ?_
          refine WS.pcondT rfl rfl ?_
          iterate 2 refine jq ?_
          refine jg ?_
          refine jo ?_
          refine jB false ?_
          iterate 2 refine jo ?_
          refine jB false ?_
          refine jo ?_
          refine je ?_
          refine WS.pcondF rfl rfl ?_
          refine WS.pskip rfl ?_
          refine WS.pexit rfl rfl ?_
          refine jg ?_
          refine jo ?_
          refine jW ?_
          refine jo ?_
          refine je ?_
          refine WS.nil ?_
          exact ⟨i + 1, by omega, by omega, (jSn [0,1,2,3,4,5,6,7,8,9] (by simp [jVb, jOb, jMb, mapL_cellsR, okL_cellsR, WM, ndB, rfB, List.cons_append, List.nil_append, e2]) (by simp only [jSl, jOb, jMb, Nat.reduceAdd, Nat.reduceLT, WM, ndB, rfB, List.cons_append, List.nil_append, e2] <;> exact jClo))⟩
        · simp only [e1]
          iterate 2 refine jq ?_
          refine jg ?_
          iterate 2 refine jo ?_
          refine jDF ?_
          refine je ?_
          refine WS.pcondF rfl rfl ?_
          refine WS.pout rfl rfl ?_
          exact ⟨rfl, (), trivial, (jSn [0,1,2,3,4,5,6,7,8,9] (by simp [jVb, jOb, jMb, mapL_cellsR, okL_cellsR, WM, ndB, rfB, List.cons_append, List.nil_append]) (by simp only [jSl, jOb, jMb, Nat.reduceAdd, Nat.reduceLT, WM, ndB, rfB, List.cons_append, List.nil_append] <;> exact jClo))⟩
  · rintro _ -
    have ST := stat_walk x
    simp only [ndR] at ST
    simp only [WM, ndB, rfB, List.cons_append, List.nil_append]
    refine jq ?_
    refine jg ?_
    iterate 2 refine jo ?_
    refine jc [1,2,3] ST (by simp [jOb]) (by simp [jEb, jOb, jMb, mapL_cellsR, okL_cellsR]) ?_; rintro _ _ ⟨rfl, rfl⟩ -; simp only [jPg, jMb, ll, Nat.reduceAdd, Nat.reduceLT, Nat.zero_add, if_true, if_false, Nat.reduceSub, reduceIte, mapL_cellsR, Nat.lt_irrefl, Nat.not_lt_zero, Nat.zero_lt_succ, Nat.lt_add_one]
    refine jo ?_
    refine jDT ?_
    refine jo ?_
    refine je ?_
    refine WS.pret rfl ⟨.inr rfl, _, rfl, ?_⟩
    exact ⟨_, rfl, rfl⟩
theorem wears_main (b p np : Nat) (l : List Act) (c : Nat) (aa : Option (Nat × Nat)) (h1 : 1 ≤ b) (h2 : b ≤ 8) (h3 : 1 ≤ p) (h4 : p ≤ 8) (hp : (b : Int) * p = (np : Int)) (h0 : 1 ≤ np) (hnp : np ≤ 10000) (hl : l.length ≤ 40) (hg : ∀ y ∈ l, goodA y) (ha : aa = some (0, 0)) :
    FM Try.prog 6 [.i .i64 b, .i .i64 p, .sl aa l.length c false] [some ⟨cellsR rwAct l, 38, false⟩] (fun v _ => v = .b true) := by
  subst ha
  have AW := awake_fm
  have N := nnew_ok b p np h1 (by omega) h3 (by omega) hp hnp
  have R := rnew_ok b p np h1 (by omega) h3 (by omega) hp hnp
  have hw0 : (ns0 b p np).bk.map Bk.wear = List.replicate b 0 := by simp [ns0]
  refine FM.pbody (tb := tb) (fn := Try.f6) rfl rfl ?_
  simp only [argS, Nat.reduceAdd, List.length_cons, List.length_nil]
  refine jq ?_
  refine jg ?_
  refine jo ?_
  refine je ?_
  iterate 2 refine jq ?_
  refine jg ?_
  refine jc [] AW (by simp [jOb, ndM, rfM]) (by simp [jEb, jOb, jMb, mapL_cellsR, okL_cellsR, ndM, rfM]) ?_; rintro _ _ ⟨rfl, rfl⟩ -; simp only [jPg, jMb, ll, Nat.reduceAdd, Nat.reduceLT, Nat.zero_add, if_true, if_false, Nat.reduceSub, reduceIte, mapL_cellsR, Nat.lt_irrefl, Nat.not_lt_zero, Nat.zero_lt_succ, Nat.lt_add_one, ndM, rfM]
  refine jB false ?_
  refine je ?_
  refine WS.pcondF rfl rfl ?_
  refine WS.pskip rfl ?_
  iterate 2 refine jq ?_
  refine jg ?_
  refine jo ?_
  refine jDF ?_
  iterate 2 refine jo ?_
  refine jDF ?_
  iterate 3 refine jo ?_
  refine jDF ?_
  iterate 3 refine jo ?_
  refine jDF ?_
  iterate 4 refine jo ?_
  refine jDF ?_
  refine jo ?_
  refine je ?_
  refine WS.pcondF rfl rfl ?_
  refine WS.pskip rfl ?_
  refine jq ?_
  refine jg ?_
  iterate 2 refine jo ?_
  refine jc [] N (by simp [jOb, ndM, rfM]) (by simp [jEb, jOb, jMb, mapL_cellsR, okL_cellsR, ndM, rfM]) ?_; rintro _ _ ⟨rfl, rfl⟩ -; simp only [jPg, jMb, ll, Nat.reduceAdd, Nat.reduceLT, Nat.zero_add, if_true, if_false, Nat.reduceSub, reduceIte, mapL_cellsR, Nat.lt_irrefl, Nat.not_lt_zero, Nat.zero_lt_succ, Nat.lt_add_one, ndM, rfM]
  iterate 5 refine jo ?_
  refine je ?_
  iterate 2 refine jq ?_
  refine jg ?_
  refine jo ?_
  refine jB false ?_
  refine je ?_
  refine WS.pcondF rfl rfl ?_
  refine WS.pskip rfl ?_
  refine jq ?_
  refine jg ?_
  iterate 2 refine jo ?_
  refine jc [] R (by simp [jOb, ndM, rfM]) (by simp [jEb, jOb, jMb, mapL_cellsR, okL_cellsR, ndM, rfM]) ?_; rintro _ _ ⟨rfl, rfl⟩ -; simp only [jPg, jMb, ll, Nat.reduceAdd, Nat.reduceLT, Nat.zero_add, if_true, if_false, Nat.reduceSub, reduceIte, mapL_cellsR, Nat.lt_irrefl, Nat.not_lt_zero, Nat.zero_lt_succ, Nat.lt_add_one, ndM, rfM]
  refine jo ?_
  refine je ?_
  refine jq ?_
  refine jg ?_
  refine jo ?_
  refine WS.po (tb := tb) rfl rfl rfl rfl (step_H rfl rfl (evH_make (m := b) (n := b) rfl rfl rfl rfl rfl rfl rfl rfl (by omega) (by omega) (by omega) (Nat.le_refl _) (by omega) (by omega))) ?_; (try rw [upd_mem _ rfl]); (try rw [new_mem]); (try simp only [List.set_cons_zero, List.set_cons_succ, List.cons_append, List.nil_append, mem_next, List.length_cons, List.length_nil, Nat.zero_add, Nat.reduceAdd, List.drop_zero, vcells, cellsI_app1, cellsB_app1, cellsI_cons, repsI, repsB, Bk_app1, Bk_reps, Act_app1, Act_reps, ndM, rfM])
  refine jo ?_
  refine je ?_
  iterate 2 refine jq ?_
  refine jg ?_
  refine jo ?_
  refine je ?_
  refine WS.pblock rfl ?_
  refine WS.ploopI (σ := StP) (τ := NS) (SSw b p l c) (fun a => WM l a.2) (InvW b np l.length) (fun s => l.length - s.1) (fun _ => [(0, .i .i64 b), (1, .i .i64 p), (7, .p (some (3,0))), (10, .sl (some (9,0)) b b false)]) (fun s => WM l s) (fun s => InvW b np l.length (l.length, s)) 0 [0,1,2,3,4,5,6,7,8,9] (0, ns0 b p np) rfl ⟨Nat.zero_le _, ns0_ok b p np h1 (by omega) h3 (by omega) hp h0 hnp, by simp [ns0], by simp [ns0], by simp [ns0], by simp [ns0], by rw [hw0]; simp [ns0]⟩ (jSb (by simp [jVb, jOb, jMb, mapL_cellsR, okL_cellsR, SSw, WM, ndB, rfB, List.cons_append, List.nil_append, hw0, repsI]) (by simp only [jSl, jOb, jMb, Nat.reduceAdd, Nat.reduceLT, SSw, WM, ndB, rfB, List.cons_append, List.nil_append, hw0, repsI] <;> exact jClo)) rfl ?_ ?_
  · intro s H
    refine WE.mono (fun x t' h' hq => ?_) (pw_all b p np l c hl hg s H)
    cases x with
    | n => exact hq
    | x j => exact hq
    | r => exact hq.elim
  · rintro x HI
    exact wears_end b p np l x h2 HI hl
theorem wears_empty (b p np : Nat) (c : Nat) (h1 : 1 ≤ b) (h2 : b ≤ 8) (h3 : 1 ≤ p) (h4 : p ≤ 8) (hp : (b : Int) * p = (np : Int)) (h0 : 1 ≤ np) (hnp : np ≤ 10000) :
    FM Try.prog 6 [.i .i64 b, .i .i64 p, .sl none 0 c false] [some ⟨cellsR rwAct [], 38, false⟩] (fun v _ => v = .b true) := by
  have AW := awake_fm
  have N := nnew_ok b p np h1 (by omega) h3 (by omega) hp hnp
  have R := rnew_ok b p np h1 (by omega) h3 (by omega) hp hnp
  have hw0 : (ns0 b p np).bk.map Bk.wear = List.replicate b 0 := by simp [ns0]
  refine FM.pbody (tb := tb) (fn := Try.f6) rfl rfl ?_
  simp only [argS, Nat.reduceAdd, List.length_cons, List.length_nil]
  refine jq ?_
  refine jg ?_
  refine jo ?_
  refine je ?_
  iterate 2 refine jq ?_
  refine jg ?_
  refine jc [] AW (by simp [jOb, ndM, rfM]) (by simp [jEb, jOb, jMb, mapL_cellsR, okL_cellsR, ndM, rfM]) ?_; rintro _ _ ⟨rfl, rfl⟩ -; simp only [jPg, jMb, ll, Nat.reduceAdd, Nat.reduceLT, Nat.zero_add, if_true, if_false, Nat.reduceSub, reduceIte, mapL_cellsR, Nat.lt_irrefl, Nat.not_lt_zero, Nat.zero_lt_succ, Nat.lt_add_one, ndM, rfM]
  refine jB false ?_
  refine je ?_
  refine WS.pcondF rfl rfl ?_
  refine WS.pskip rfl ?_
  iterate 2 refine jq ?_
  refine jg ?_
  refine jo ?_
  refine jDF ?_
  iterate 2 refine jo ?_
  refine jDF ?_
  iterate 3 refine jo ?_
  refine jDF ?_
  iterate 3 refine jo ?_
  refine jDF ?_
  iterate 4 refine jo ?_
  refine jB false ?_
  refine jo ?_
  refine je ?_
  refine WS.pcondF rfl rfl ?_
  refine WS.pskip rfl ?_
  refine jq ?_
  refine jg ?_
  iterate 2 refine jo ?_
  refine jc [] N (by simp [jOb, ndM, rfM]) (by simp [jEb, jOb, jMb, mapL_cellsR, okL_cellsR, ndM, rfM]) ?_; rintro _ _ ⟨rfl, rfl⟩ -; simp only [jPg, jMb, ll, Nat.reduceAdd, Nat.reduceLT, Nat.zero_add, if_true, if_false, Nat.reduceSub, reduceIte, mapL_cellsR, Nat.lt_irrefl, Nat.not_lt_zero, Nat.zero_lt_succ, Nat.lt_add_one, ndM, rfM]
  iterate 5 refine jo ?_
  refine je ?_
  iterate 2 refine jq ?_
  refine jg ?_
  refine jo ?_
  refine jB false ?_
  refine je ?_
  refine WS.pcondF rfl rfl ?_
  refine WS.pskip rfl ?_
  refine jq ?_
  refine jg ?_
  iterate 2 refine jo ?_
  refine jc [] R (by simp [jOb, ndM, rfM]) (by simp [jEb, jOb, jMb, mapL_cellsR, okL_cellsR, ndM, rfM]) ?_; rintro _ _ ⟨rfl, rfl⟩ -; simp only [jPg, jMb, ll, Nat.reduceAdd, Nat.reduceLT, Nat.zero_add, if_true, if_false, Nat.reduceSub, reduceIte, mapL_cellsR, Nat.lt_irrefl, Nat.not_lt_zero, Nat.zero_lt_succ, Nat.lt_add_one, ndM, rfM]
  refine jo ?_
  refine je ?_
  refine jq ?_
  refine jg ?_
  refine jo ?_
  refine WS.po (tb := tb) rfl rfl rfl rfl (step_H rfl rfl (evH_make (m := b) (n := b) rfl rfl rfl rfl rfl rfl rfl rfl (by omega) (by omega) (by omega) (Nat.le_refl _) (by omega) (by omega))) ?_; (try rw [upd_mem _ rfl]); (try rw [new_mem]); (try simp only [List.set_cons_zero, List.set_cons_succ, List.cons_append, List.nil_append, mem_next, List.length_cons, List.length_nil, Nat.zero_add, Nat.reduceAdd, List.drop_zero, vcells, cellsI_app1, cellsB_app1, cellsI_cons, repsI, repsB, Bk_app1, Bk_reps, Act_app1, Act_reps, ndM, rfM])
  refine jo ?_
  refine je ?_
  iterate 2 refine jq ?_
  refine jg ?_
  refine jo ?_
  refine je ?_
  refine WS.pblock rfl ?_
  refine WS.ploopI (σ := Unit) (τ := Unit) (fun _ => [(0, .i .i64 b), (1, .i .i64 p), (2, .sl none 0 c false), (7, .p (some (3,0))), (10, .sl (some (9,0)) b b false), (11, .i .i64 0)]) (fun _ => WM [] (ns0 b p np)) (fun _ => True) (fun _ => 0) (fun _ => [(0, .i .i64 b), (1, .i .i64 p), (7, .p (some (3,0))), (10, .sl (some (9,0)) b b false)]) (fun _ => WM [] (ns0 b p np)) (fun _ => True) 0 [0,1,2,3,4,5,6,7,8,9] () rfl trivial (jSb (by simp [jVb, jOb, jMb, mapL_cellsR, okL_cellsR, WM, ndB, rfB, List.cons_append, List.nil_append, hw0, repsI]) (by simp only [jSl, jOb, jMb, Nat.reduceAdd, Nat.reduceLT, WM, ndB, rfB, List.cons_append, List.nil_append, hw0, repsI] <;> exact jClo)) rfl ?_ ?_
  · rintro ⟨⟩ -
    simp only [WM, ndB, rfB, List.cons_append, List.nil_append]
    iterate 2 refine jq ?_
    refine jg ?_
    iterate 3 refine jo ?_
    refine jB false ?_
    refine je ?_
    refine WS.pcondF rfl rfl ?_
    refine WS.pout rfl rfl ?_
    exact ⟨rfl, (), trivial, (jSn [0,1,2,3,4,5,6,7,8,9] (by simp [jVb, jOb, jMb, mapL_cellsR, okL_cellsR, WM, ndB, rfB, List.cons_append, List.nil_append]) (by simp only [jSl, jOb, jMb, Nat.reduceAdd, Nat.reduceLT, WM, ndB, rfB, List.cons_append, List.nil_append] <;> exact jClo))⟩
  · rintro _ -
    exact wears_end b p np [] (ns0 b p np) h2 ⟨Nat.le_refl _, ns0_ok b p np h1 (by omega) h3 (by omega) hp h0 hnp, by simp [ns0], by simp [ns0], by simp [ns0], by simp [ns0], by rw [hw0]; simp [ns0]⟩ (by simp)
theorem wears_far (z1 z2 : Int) (l : List Act) (a : Option (Nat × Nat)) (c : Nat) (h : z1 < 1 ∨ 8 < z1 ∨ z2 < 1 ∨ 8 < z2 ∨ 40 < l.length) (hl : l.length ≤ 9223372036854775807) : FM Try.prog 6 [.i .i64 z1, .i .i64 z2, .sl a l.length c false] [some ⟨cellsR rwAct l, 38, false⟩] (fun v _ => v = .b true) := by
  have AW := awake_fm
  refine FM.pbody (tb := tb) (fn := Try.f6) rfl rfl ?_
  simp only [argS, Nat.reduceAdd, List.length_cons, List.length_nil]
  focus
    refine jq ?_
    refine jg ?_
    refine jo ?_
    refine je ?_
    iterate 2 refine jq ?_
    refine jg ?_
    refine jc [] AW (by simp [jOb]) (by simp [jEb, jOb, jMb, mapL_cellsR, okL_cellsR]) ?_; rintro _ _ ⟨rfl, rfl⟩ -; simp only [jPg, jMb, ll, Nat.reduceAdd, Nat.reduceLT, Nat.zero_add, if_true, if_false, Nat.reduceSub, reduceIte, mapL_cellsR, Nat.lt_irrefl, Nat.not_lt_zero, Nat.zero_lt_succ, Nat.lt_add_one]
    refine jB false ?_
    refine je ?_
    refine WS.pcondF rfl rfl ?_
    refine WS.pskip rfl ?_
    iterate 2 refine jq ?_
    refine jg ?_
    refine jo ?_
    refine WS.poDS (tb := tb) rfl rfl rfl rfl rfl (fun hb__ => ?_) (fun hb__ => ?_)
    refine jo ?_
    iterate 2 refine jN ?_
    iterate 2 refine jo ?_
    iterate 2 refine jN ?_
    iterate 2 refine jo ?_
    iterate 2 refine jN ?_
    iterate 2 refine jo ?_
    iterate 3 refine jN ?_
    refine jo ?_
    refine je ?_
    refine WS.pcondT rfl rfl ?_
    refine jq ?_
    refine jg ?_
    refine jo ?_
    refine je ?_
    refine WS.pret rfl ⟨.inr rfl, _, rfl, ?_⟩
    rotate_left
    iterate 2 refine jo ?_
    refine WS.poDS (tb := tb) rfl rfl rfl rfl rfl (fun hb__ => ?_) (fun hb__ => ?_)
    iterate 2 refine jo ?_
    iterate 2 refine jN ?_
    iterate 2 refine jo ?_
    iterate 2 refine jN ?_
    iterate 2 refine jo ?_
    iterate 3 refine jN ?_
    refine jo ?_
    refine je ?_
    refine WS.pcondT rfl rfl ?_
    refine jq ?_
    refine jg ?_
    refine jo ?_
    refine je ?_
    refine WS.pret rfl ⟨.inr rfl, _, rfl, ?_⟩
    rotate_left
    iterate 3 refine jo ?_
    refine WS.poDS (tb := tb) rfl rfl rfl rfl rfl (fun hb__ => ?_) (fun hb__ => ?_)
    iterate 2 refine jo ?_
    iterate 2 refine jN ?_
    iterate 2 refine jo ?_
    iterate 3 refine jN ?_
    refine jo ?_
    refine je ?_
    refine WS.pcondT rfl rfl ?_
    refine jq ?_
    refine jg ?_
    refine jo ?_
    refine je ?_
    refine WS.pret rfl ⟨.inr rfl, _, rfl, ?_⟩
    rotate_left
    iterate 3 refine jo ?_
    refine WS.poDS (tb := tb) rfl rfl rfl rfl rfl (fun hb__ => ?_) (fun hb__ => ?_)
    iterate 2 refine jo ?_
    iterate 3 refine jN ?_
    refine jo ?_
    refine je ?_
    refine WS.pcondT rfl rfl ?_
    refine jq ?_
    refine jg ?_
    refine jo ?_
    refine je ?_
    refine WS.pret rfl ⟨.inr rfl, _, rfl, ?_⟩
    rotate_left
    iterate 4 refine jo ?_
    refine jDT ?_
    refine jo ?_
    refine je ?_
    refine WS.pcondT rfl rfl ?_
    refine jq ?_
    refine jg ?_
    refine jo ?_
    refine je ?_
    refine WS.pret rfl ⟨.inr rfl, _, rfl, ?_⟩
    rotate_left
  all_goals exact ⟨_, rfl, rfl⟩
theorem wears_calls (z1 z2 : Int) (a : Option Addr) (c : Nat) (l : List Act) (W : World) (_ : (Lit.int .i64 z1).wf = true) (_ : (Lit.int .i64 z2).wf = true) (hr : RowIn W a (cellsR rwAct l)) (hc : l.length ≤ c) (hm' : l.length ≤ maxLen) (hg : ∀ y ∈ l, (Lit.int .i64 y.op).wf = true ∧ (Lit.int .i64 y.a).wf = true ∧ (Lit.int .i64 y.short).wf = true ∧ (Lit.int .u8 y.fill).wf = true) :
    Calls Try.prog 6 #[.int .i64 z1, .int .i64 z2, .slice a l.length c] W (fun e w' => e = .returned (.bool true) ∧ Go.RowKit.Below W.heap.size W w') := by
  have hm : l.length ≤ 9223372036854775807 := Nat.le_trans hm' (by decide)
  have key : FM Try.prog 6 [.i .i64 z1, .i .i64 z2, .sl (argA a 0) l.length c false] [some ⟨cellsR rwAct l, 38, false⟩] (fun v _ => v = .b true) := by
    by_cases h : z1 < 1 ∨ 8 < z1 ∨ z2 < 1 ∨ 8 < z2 ∨ 40 < l.length
    · exact wears_far z1 z2 l _ c h hm
    · obtain ⟨b, rfl⟩ : ∃ n : Nat, z1 = n := ⟨z1.toNat, by omega⟩
      obtain ⟨p, rfl⟩ : ∃ n : Nat, z2 = n := ⟨z2.toNat, by omega⟩
      have hle : b * p ≤ 64 * 32 := Nat.mul_le_mul (by omega) (by omega)
      have hge : 1 * 1 ≤ b * p := Nat.mul_le_mul (by omega) (by omega)
      have hp : (b : Int) * p = ((b * p : Nat) : Int) := by push_cast; rfl
      rcases argA_or a 0 with ha | ha
      · have h0 : ¬ 0 < l.length := fun h3 => by rw [argA_some hr (by rw [Act_len]; omega) 0] at ha; cases ha
        obtain rfl : l = [] := List.length_eq_zero_iff.1 (by omega)
        rw [ha]
        exact wears_empty b p (b * p) c (by omega) (by omega) (by omega) (by omega) hp (by omega) (by omega)
      · exact wears_main b p (b * p) l c (argA a 0) (by omega) (by omega) (by omega) (by omega) hp (by omega) (by omega) (by omega) hg ha
  have := FM.topR [(a, cellsR rwAct l, 38)] key ⟨trivial, trivial, by cases a <;> simp [argA, okV], trivial⟩ W (fun x hx => by
    rcases List.mem_singleton.1 hx with rfl
    exact ⟨hr, okL_cellsR 0 rwAct l⟩)
  simp only [conL, con_argA [(a, cellsR rwAct l, 38)] 0 (a, cellsR rwAct l, 38) rfl] at this
  exact this
end Go.Proofs.Ytmkolibmadbenaa.Am

