/- Functions of the flash, walked. Conditions: those of each theorem. -/
import Derived.Test.YtmkolibmadbenaaAm5
import Derived.Test.YtmkolibmadbenaaNl9
import Derived.Test.YtmkolibmadbenaaNp6
import Derived.Test.YtmkolibmadbenaaNs2
namespace Go.Proofs.Ytmkolibmadbenaa.Am
open Go.Proofs
set_option maxRecDepth 1000000
set_option maxHeartbeats 4000000
set_option linter.unusedSimpArgs false
set_option linter.unusedVariables false
def boxA (y : Act) : Option Blk := some ⟨[.i .i64 y.op, .i .i64 y.a, .i .i64 y.short, .i .u8 y.fill], 38, true⟩
def LM (l : List Act) (u : Act) (x : NS) : List (Option Blk) := [some ⟨cellsR rwAct l, 38, false⟩, boxA u] ++ ndB 2 x
def SSl (b p : Nat) (l : List Act) (c : Nat) (at_ by_ : Int) (i : Nat) : List (Nat × V) := [(0, .i .i64 b), (1, .i .i64 p), (2, .sl (some (0,0)) l.length c false), (3, .i .i64 at_), (4, .i .u8 by_), (11, .p (some (1,0))), (13, .p (some (4,0))), (15, .i .i64 i)]
structure InvL (b p np m : Nat) (a : StP) : Prop where
  le : a.1 ≤ m
  ok : NOk a.2 np
  io : IOk a.2
  len : a.2.bk.length = b
  p : a.2.p = p
  rd : a.2.rd = 0
  pr : a.2.pr ≤ a.1
  er : a.2.er ≤ a.1
abbrev PostL (b p np : Nat) (l : List Act) (u : Act) (c : Nat) (at_ by_ : Int) (s : StP) : Ex → T V → LH → Prop := fun x t' h' => x = .n ∧ ∃ s', InvL b p np l.length s' ∧ l.length - s'.1 < l.length - s.1 ∧ Seen 1 t' h' (SSl b p l c at_ by_ s'.1) (LM l u s'.2)
theorem pl_none (b p np : Nat) (l : List Act) (u : Act) (c i : Nat) (at_ by_ : Int) (x : NS) (op a short fill : Int) (H : InvL b p np l.length (i, x)) (hl : l.length ≤ 30) (hx : l[i]? = some ⟨op, a, short, fill⟩) (hg : goodA ⟨op, a, short, fill⟩) (ho : ¬ op = 0 ∧ ¬ op = 1 ∧ ¬ op = 3 ∧ ¬ op = 4 ∧ ¬ op = 5) :
    WS Try.prog (frameN Try.f7 6) 1 [.c (k1 (k1 (k2 (k1 (k2 (k2 (k2 (k2 (k2 (kb Try.f7))))))))))] (slt (SSl b p l c at_ by_ i)) (mem 0 (LM l u x)) (PostL b p np l u c at_ by_ (i, x)) := by
  have hi : i < l.length := (List.getElem?_eq_some_iff.1 hx).1
  obtain ⟨hle, H, hio, hlen, hp, hrd, hpr, her⟩ := H
  dsimp only at H hio hlen hp hrd hpr her
  have hga := wf64 hg.2.1
  dsimp only at hga
  obtain ⟨o0, o1, o3, o4, o5⟩ := ho
  simp only [SSl, LM, ndB, boxA, List.cons_append, List.nil_append]
  iterate 2 refine jq ?_
  refine jg ?_
  iterate 3 refine jo ?_
  refine jDT ?_
  refine je ?_
  refine WS.pcondT rfl rfl ?_
  refine WS.pskip rfl ?_
  refine jq ?_
  refine WS.pblock rfl ?_
  refine jq ?_
  refine jg ?_
  iterate 2 refine jo ?_
  refine jI ?_
  refine jP ?_
  refine WS.po (tb := tb) rfl rfl rfl rfl (step_R rfl (evR_load rfl rfl rfl rfl (cellsR_get0 hx rfl))) ?_
  refine je ?_
  refine WS.pblock rfl ?_
  refine jq ?_
  refine jg ?_
  refine jDF ?_
  refine jo ?_
  refine je ?_
  refine WS.pcondF rfl rfl ?_
  refine jq ?_
  refine jg ?_
  refine jDF ?_
  refine jo ?_
  refine je ?_
  refine WS.pcondF rfl rfl ?_
  refine jq ?_
  refine jg ?_
  refine jDF ?_
  refine jo ?_
  refine je ?_
  refine WS.pcondF rfl rfl ?_
  refine jq ?_
  refine jg ?_
  refine jDF ?_
  refine jo ?_
  refine je ?_
  refine WS.pcondF rfl rfl ?_
  refine jq ?_
  refine jg ?_
  refine jDF ?_
  refine jo ?_
  refine je ?_
  refine WS.pcondF rfl rfl ?_
  refine WS.pskip rfl ?_
  refine jg ?_
  refine jo ?_
  refine jW ?_
  refine jo ?_
  refine je ?_
  refine WS.nil ?_
  exact ⟨rfl, (i + 1, x), ⟨hi, H, hio, hlen, hp, by simp only; omega, by simp only; omega, by simp only; omega⟩, by simp only; omega, (jSn [0,1,2,3,4] (by simp [jVb, jOb, jMb, mapL_cellsR, okL_cellsR, SSl, LM, ndB, boxA, List.cons_append, List.nil_append]) (by simp only [jSl, jOb, jMb, Nat.reduceAdd, Nat.reduceLT, SSl, LM, ndB, boxA, List.cons_append, List.nil_append] <;> exact jClo))⟩
theorem pl_cut (b p np : Nat) (l : List Act) (u : Act) (c i : Nat) (at_ by_ : Int) (x : NS) (op a short fill : Int) (H : InvL b p np l.length (i, x)) (hl : l.length ≤ 30) (hx : l[i]? = some ⟨op, a, short, fill⟩) (hg : goodA ⟨op, a, short, fill⟩) (ho : op = 3) :
    WS Try.prog (frameN Try.f7 6) 1 [.c (k1 (k1 (k2 (k1 (k2 (k2 (k2 (k2 (k2 (kb Try.f7))))))))))] (slt (SSl b p l c at_ by_ i)) (mem 0 (LM l u x)) (PostL b p np l u c at_ by_ (i, x)) := by
  have hi : i < l.length := (List.getElem?_eq_some_iff.1 hx).1
  obtain ⟨hle, H, hio, hlen, hp, hrd, hpr, her⟩ := H
  dsimp only at H hio hlen hp hrd hpr her
  have hga := wf64 hg.2.1
  dsimp only at hga
  subst ho
  have H' : NOk { x with cut := max a (-1) } np := nok_of H ⟨rfl, rfl, rfl⟩ H.nx H.wr (by simp only; omega) (by simp only; omega) H.fail1 H.fail2 H.rd1 H.rd2 H.pr1 H.pr2 H.er1 H.er2
  have C := cut_walk x a
  simp only [ndM] at C
  simp only [SSl, LM, ndB, boxA, List.cons_append, List.nil_append]
  by_cases h0 : 0 ≤ a
  · have hm : max a (-1) = a := by omega
    simp only [hm] at C H'
    iterate 2 refine jq ?_
    refine jg ?_
    iterate 3 refine jo ?_
    refine jDT ?_
    refine je ?_
    refine WS.pcondT rfl rfl ?_
    refine WS.pskip rfl ?_
    refine jq ?_
    refine WS.pblock rfl ?_
    refine jq ?_
    refine jg ?_
    iterate 2 refine jo ?_
    refine jI ?_
    refine jP ?_
    refine WS.po (tb := tb) rfl rfl rfl rfl (step_R rfl (evR_load rfl rfl rfl rfl (cellsR_get0 hx rfl))) ?_
    refine je ?_
    refine WS.pblock rfl ?_
    refine jq ?_
    refine jg ?_
    refine jB false ?_
    refine jo ?_
    refine je ?_
    refine WS.pcondF rfl rfl ?_
    refine jq ?_
    refine jg ?_
    refine jB false ?_
    refine jo ?_
    refine je ?_
    refine WS.pcondF rfl rfl ?_
    refine jq ?_
    refine jg ?_
    refine jB true ?_
    refine jo ?_
    refine je ?_
    refine WS.pcondT rfl rfl ?_
    refine jg ?_
    iterate 3 refine jo ?_
    refine jI ?_
    refine jP ?_
    refine WS.po (tb := tb) rfl rfl rfl rfl (step_R rfl (evR_load rfl rfl rfl rfl (cellsR_get hx rfl))) ?_
    refine jc [2,3,4] C (by simp [jOb]) (by simp [jEb, jOb, jMb, mapL_cellsR, okL_cellsR]) ?_; rintro _ _ ⟨rfl, rfl⟩ -; simp only [jPg, jMb, ll, Nat.reduceAdd, Nat.reduceLT, Nat.zero_add, if_true, if_false, Nat.reduceSub, reduceIte, mapL_cellsR, Nat.lt_irrefl, Nat.not_lt_zero, Nat.zero_lt_succ, Nat.lt_add_one]
    refine je ?_
    refine jg ?_
    refine jo ?_
    refine jW ?_
    refine jo ?_
    refine je ?_
    refine WS.nil ?_
    exact ⟨rfl, (i + 1, { x with cut := a }), ⟨hi, H', (IOk_same (x := x) rfl rfl rfl hio), hlen, hp, by simp only; omega, by simp only; omega, by simp only; omega⟩, by simp only; omega, (jSn [0,1,2,3,4] (by simp [jVb, jOb, jMb, mapL_cellsR, okL_cellsR, SSl, LM, ndB, boxA, List.cons_append, List.nil_append]) (by simp only [jSl, jOb, jMb, Nat.reduceAdd, Nat.reduceLT, SSl, LM, ndB, boxA, List.cons_append, List.nil_append] <;> exact jClo))⟩
  · have hm : max a (-1) = -1 := by omega
    simp only [hm] at C H'
    iterate 2 refine jq ?_
    refine jg ?_
    iterate 3 refine jo ?_
    refine jDT ?_
    refine je ?_
    refine WS.pcondT rfl rfl ?_
    refine WS.pskip rfl ?_
    refine jq ?_
    refine WS.pblock rfl ?_
    refine jq ?_
    refine jg ?_
    iterate 2 refine jo ?_
    refine jI ?_
    refine jP ?_
    refine WS.po (tb := tb) rfl rfl rfl rfl (step_R rfl (evR_load rfl rfl rfl rfl (cellsR_get0 hx rfl))) ?_
    refine je ?_
    refine WS.pblock rfl ?_
    refine jq ?_
    refine jg ?_
    refine jB false ?_
    refine jo ?_
    refine je ?_
    refine WS.pcondF rfl rfl ?_
    refine jq ?_
    refine jg ?_
    refine jB false ?_
    refine jo ?_
    refine je ?_
    refine WS.pcondF rfl rfl ?_
    refine jq ?_
    refine jg ?_
    refine jB true ?_
    refine jo ?_
    refine je ?_
    refine WS.pcondT rfl rfl ?_
    refine jg ?_
    iterate 3 refine jo ?_
    refine jI ?_
    refine jP ?_
    refine WS.po (tb := tb) rfl rfl rfl rfl (step_R rfl (evR_load rfl rfl rfl rfl (cellsR_get hx rfl))) ?_
    refine jc [2,3,4] C (by simp [jOb]) (by simp [jEb, jOb, jMb, mapL_cellsR, okL_cellsR]) ?_; rintro _ _ ⟨rfl, rfl⟩ -; simp only [jPg, jMb, ll, Nat.reduceAdd, Nat.reduceLT, Nat.zero_add, if_true, if_false, Nat.reduceSub, reduceIte, mapL_cellsR, Nat.lt_irrefl, Nat.not_lt_zero, Nat.zero_lt_succ, Nat.lt_add_one]
    refine je ?_
    refine jg ?_
    refine jo ?_
    refine jW ?_
    refine jo ?_
    refine je ?_
    refine WS.nil ?_
    exact ⟨rfl, (i + 1, { x with cut := -1 }), ⟨hi, H', (IOk_same (x := x) rfl rfl rfl hio), hlen, hp, by simp only; omega, by simp only; omega, by simp only; omega⟩, by simp only; omega, (jSn [0,1,2,3,4] (by simp [jVb, jOb, jMb, mapL_cellsR, okL_cellsR, SSl, LM, ndB, boxA, List.cons_append, List.nil_append]) (by simp only [jSl, jOb, jMb, Nat.reduceAdd, Nat.reduceLT, SSl, LM, ndB, boxA, List.cons_append, List.nil_append] <;> exact jClo))⟩
theorem pl_fail (b p np : Nat) (l : List Act) (u : Act) (c i : Nat) (at_ by_ : Int) (x : NS) (op a short fill : Int) (H : InvL b p np l.length (i, x)) (hl : l.length ≤ 30) (hx : l[i]? = some ⟨op, a, short, fill⟩) (hg : goodA ⟨op, a, short, fill⟩) (ho : op = 4) :
    WS Try.prog (frameN Try.f7 6) 1 [.c (k1 (k1 (k2 (k1 (k2 (k2 (k2 (k2 (k2 (kb Try.f7))))))))))] (slt (SSl b p l c at_ by_ i)) (mem 0 (LM l u x)) (PostL b p np l u c at_ by_ (i, x)) := by
  have hi : i < l.length := (List.getElem?_eq_some_iff.1 hx).1
  obtain ⟨hle, H, hio, hlen, hp, hrd, hpr, her⟩ := H
  dsimp only at H hio hlen hp hrd hpr her
  have hga := wf64 hg.2.1
  dsimp only at hga
  subst ho
  have H' : NOk { x with fail := max a (-1) } np := nok_of H ⟨rfl, rfl, rfl⟩ H.nx H.wr H.cut1 H.cut2 (by simp only; omega) (by simp only; omega) H.rd1 H.rd2 H.pr1 H.pr2 H.er1 H.er2
  have C := failc_walk x a
  simp only [ndM] at C
  simp only [SSl, LM, ndB, boxA, List.cons_append, List.nil_append]
  by_cases h0 : 0 ≤ a
  · have hm : max a (-1) = a := by omega
    simp only [hm] at C H'
    iterate 2 refine jq ?_
    refine jg ?_
    iterate 3 refine jo ?_
    refine jDT ?_
    refine je ?_
    refine WS.pcondT rfl rfl ?_
    refine WS.pskip rfl ?_
    refine jq ?_
    refine WS.pblock rfl ?_
    refine jq ?_
    refine jg ?_
    iterate 2 refine jo ?_
    refine jI ?_
    refine jP ?_
    refine WS.po (tb := tb) rfl rfl rfl rfl (step_R rfl (evR_load rfl rfl rfl rfl (cellsR_get0 hx rfl))) ?_
    refine je ?_
    refine WS.pblock rfl ?_
    refine jq ?_
    refine jg ?_
    refine jB false ?_
    refine jo ?_
    refine je ?_
    refine WS.pcondF rfl rfl ?_
    refine jq ?_
    refine jg ?_
    refine jB false ?_
    refine jo ?_
    refine je ?_
    refine WS.pcondF rfl rfl ?_
    refine jq ?_
    refine jg ?_
    refine jB false ?_
    refine jo ?_
    refine je ?_
    refine WS.pcondF rfl rfl ?_
    refine jq ?_
    refine jg ?_
    refine jB true ?_
    refine jo ?_
    refine je ?_
    refine WS.pcondT rfl rfl ?_
    refine jg ?_
    iterate 3 refine jo ?_
    refine jI ?_
    refine jP ?_
    refine WS.po (tb := tb) rfl rfl rfl rfl (step_R rfl (evR_load rfl rfl rfl rfl (cellsR_get hx rfl))) ?_
    refine jc [2,3,4] C (by simp [jOb]) (by simp [jEb, jOb, jMb, mapL_cellsR, okL_cellsR]) ?_; rintro _ _ ⟨rfl, rfl⟩ -; simp only [jPg, jMb, ll, Nat.reduceAdd, Nat.reduceLT, Nat.zero_add, if_true, if_false, Nat.reduceSub, reduceIte, mapL_cellsR, Nat.lt_irrefl, Nat.not_lt_zero, Nat.zero_lt_succ, Nat.lt_add_one]
    refine je ?_
    refine jg ?_
    refine jo ?_
    refine jW ?_
    refine jo ?_
    refine je ?_
    refine WS.nil ?_
    exact ⟨rfl, (i + 1, { x with fail := a }), ⟨hi, H', (IOk_same (x := x) rfl rfl rfl hio), hlen, hp, by simp only; omega, by simp only; omega, by simp only; omega⟩, by simp only; omega, (jSn [0,1,2,3,4] (by simp [jVb, jOb, jMb, mapL_cellsR, okL_cellsR, SSl, LM, ndB, boxA, List.cons_append, List.nil_append]) (by simp only [jSl, jOb, jMb, Nat.reduceAdd, Nat.reduceLT, SSl, LM, ndB, boxA, List.cons_append, List.nil_append] <;> exact jClo))⟩
  · have hm : max a (-1) = -1 := by omega
    simp only [hm] at C H'
    iterate 2 refine jq ?_
    refine jg ?_
    iterate 3 refine jo ?_
    refine jDT ?_
    refine je ?_
    refine WS.pcondT rfl rfl ?_
    refine WS.pskip rfl ?_
    refine jq ?_
    refine WS.pblock rfl ?_
    refine jq ?_
    refine jg ?_
    iterate 2 refine jo ?_
    refine jI ?_
    refine jP ?_
    refine WS.po (tb := tb) rfl rfl rfl rfl (step_R rfl (evR_load rfl rfl rfl rfl (cellsR_get0 hx rfl))) ?_
    refine je ?_
    refine WS.pblock rfl ?_
    refine jq ?_
    refine jg ?_
    refine jB false ?_
    refine jo ?_
    refine je ?_
    refine WS.pcondF rfl rfl ?_
    refine jq ?_
    refine jg ?_
    refine jB false ?_
    refine jo ?_
    refine je ?_
    refine WS.pcondF rfl rfl ?_
    refine jq ?_
    refine jg ?_
    refine jB false ?_
    refine jo ?_
    refine je ?_
    refine WS.pcondF rfl rfl ?_
    refine jq ?_
    refine jg ?_
    refine jB true ?_
    refine jo ?_
    refine je ?_
    refine WS.pcondT rfl rfl ?_
    refine jg ?_
    iterate 3 refine jo ?_
    refine jI ?_
    refine jP ?_
    refine WS.po (tb := tb) rfl rfl rfl rfl (step_R rfl (evR_load rfl rfl rfl rfl (cellsR_get hx rfl))) ?_
    refine jc [2,3,4] C (by simp [jOb]) (by simp [jEb, jOb, jMb, mapL_cellsR, okL_cellsR]) ?_; rintro _ _ ⟨rfl, rfl⟩ -; simp only [jPg, jMb, ll, Nat.reduceAdd, Nat.reduceLT, Nat.zero_add, if_true, if_false, Nat.reduceSub, reduceIte, mapL_cellsR, Nat.lt_irrefl, Nat.not_lt_zero, Nat.zero_lt_succ, Nat.lt_add_one]
    refine je ?_
    refine jg ?_
    refine jo ?_
    refine jW ?_
    refine jo ?_
    refine je ?_
    refine WS.nil ?_
    exact ⟨rfl, (i + 1, { x with fail := -1 }), ⟨hi, H', (IOk_same (x := x) rfl rfl rfl hio), hlen, hp, by simp only; omega, by simp only; omega, by simp only; omega⟩, by simp only; omega, (jSn [0,1,2,3,4] (by simp [jVb, jOb, jMb, mapL_cellsR, okL_cellsR, SSl, LM, ndB, boxA, List.cons_append, List.nil_append]) (by simp only [jSl, jOb, jMb, Nat.reduceAdd, Nat.reduceLT, SSl, LM, ndB, boxA, List.cons_append, List.nil_append] <;> exact jClo))⟩
theorem pl_on (b p np : Nat) (l : List Act) (u : Act) (c i : Nat) (at_ by_ : Int) (x : NS) (op a short fill : Int) (H : InvL b p np l.length (i, x)) (hl : l.length ≤ 30) (hx : l[i]? = some ⟨op, a, short, fill⟩) (hg : goodA ⟨op, a, short, fill⟩) (ho : op = 5) :
    WS Try.prog (frameN Try.f7 6) 1 [.c (k1 (k1 (k2 (k1 (k2 (k2 (k2 (k2 (k2 (kb Try.f7))))))))))] (slt (SSl b p l c at_ by_ i)) (mem 0 (LM l u x)) (PostL b p np l u c at_ by_ (i, x)) := by
  have hi : i < l.length := (List.getElem?_eq_some_iff.1 hx).1
  obtain ⟨hle, H, hio, hlen, hp, hrd, hpr, her⟩ := H
  dsimp only at H hio hlen hp hrd hpr her
  have hga := wf64 hg.2.1
  dsimp only at hga
  subst ho
  have H' : NOk { x with off := false, cut := -1 } np := nok_of H ⟨rfl, rfl, rfl⟩ H.nx H.wr (by simp only; omega) (by simp only; omega) H.fail1 H.fail2 H.rd1 H.rd2 H.pr1 H.pr2 H.er1 H.er2
  have C := on_walk x
  simp only [ndM] at C
  simp only [SSl, LM, ndB, boxA, List.cons_append, List.nil_append]
  iterate 2 refine jq ?_
  refine jg ?_
  iterate 3 refine jo ?_
  refine jDT ?_
  refine je ?_
  refine WS.pcondT rfl rfl ?_
  refine WS.pskip rfl ?_
  refine jq ?_
  refine WS.pblock rfl ?_
  refine jq ?_
  refine jg ?_
  iterate 2 refine jo ?_
  refine jI ?_
  refine jP ?_
  refine WS.po (tb := tb) rfl rfl rfl rfl (step_R rfl (evR_load rfl rfl rfl rfl (cellsR_get0 hx rfl))) ?_
  refine je ?_
  refine WS.pblock rfl ?_
  refine jq ?_
  refine jg ?_
  refine jB false ?_
  refine jo ?_
  refine je ?_
  refine WS.pcondF rfl rfl ?_
  refine jq ?_
  refine jg ?_
  refine jB false ?_
  refine jo ?_
  refine je ?_
  refine WS.pcondF rfl rfl ?_
  refine jq ?_
  refine jg ?_
  refine jB false ?_
  refine jo ?_
  refine je ?_
  refine WS.pcondF rfl rfl ?_
  refine jq ?_
  refine jg ?_
  refine jB false ?_
  refine jo ?_
  refine je ?_
  refine WS.pcondF rfl rfl ?_
  refine jq ?_
  refine jg ?_
  refine jB true ?_
  refine jo ?_
  refine je ?_
  refine WS.pcondT rfl rfl ?_
  refine jg ?_
  refine jo ?_
  refine jc [2,3,4] C (by simp [jOb]) (by simp [jEb, jOb, jMb, mapL_cellsR, okL_cellsR]) ?_; rintro _ _ ⟨rfl, rfl⟩ -; simp only [jPg, jMb, ll, Nat.reduceAdd, Nat.reduceLT, Nat.zero_add, if_true, if_false, Nat.reduceSub, reduceIte, mapL_cellsR, Nat.lt_irrefl, Nat.not_lt_zero, Nat.zero_lt_succ, Nat.lt_add_one]
  refine je ?_
  refine jg ?_
  refine jo ?_
  refine jW ?_
  refine jo ?_
  refine je ?_
  refine WS.nil ?_
  exact ⟨rfl, (i + 1, { x with off := false, cut := -1 }), ⟨hi, H', (IOk_same (x := x) rfl rfl rfl hio), hlen, hp, by simp only; omega, by simp only; omega, by simp only; omega⟩, by simp only; omega, (jSn [0,1,2,3,4] (by simp [jVb, jOb, jMb, mapL_cellsR, okL_cellsR, SSl, LM, ndB, boxA, List.cons_append, List.nil_append]) (by simp only [jSl, jOb, jMb, Nat.reduceAdd, Nat.reduceLT, SSl, LM, ndB, boxA, List.cons_append, List.nil_append] <;> exact jClo))⟩
theorem pl_erase (b p np : Nat) (l : List Act) (u : Act) (c i : Nat) (at_ by_ : Int) (x : NS) (op a short fill : Int) (H : InvL b p np l.length (i, x)) (hl : l.length ≤ 30) (hx : l[i]? = some ⟨op, a, short, fill⟩) (hg : goodA ⟨op, a, short, fill⟩) (ho : op = 1) :
    WS Try.prog (frameN Try.f7 6) 1 [.c (k1 (k1 (k2 (k1 (k2 (k2 (k2 (k2 (k2 (kb Try.f7))))))))))] (slt (SSl b p l c at_ by_ i)) (mem 0 (LM l u x)) (PostL b p np l u c at_ by_ (i, x)) := by
  have hi : i < l.length := (List.getElem?_eq_some_iff.1 hx).1
  obtain ⟨hle, H, hio, hlen, hp, hrd, hpr, her⟩ := H
  dsimp only at H hio hlen hp hrd hpr her
  have hga := wf64 hg.2.1
  dsimp only at hga
  subst ho
  obtain ⟨H', K', q1, q2, q3⟩ := esS_ok H a (by omega)
  have hio' := esS_IOk H (by omega) hio a
  have E1 := erase_any x np H a
  generalize hy : esS x a = y at *
  simp only [ndM] at E1
  have hlen' : y.bk.length = b := K'.len.trans hlen
  have hp' : y.p = p := K'.p.trans hp
  simp only [SSl, LM, ndB, boxA, List.cons_append, List.nil_append]
  iterate 2 refine jq ?_
  refine jg ?_
  iterate 3 refine jo ?_
  refine jDT ?_
  refine je ?_
  refine WS.pcondT rfl rfl ?_
  refine WS.pskip rfl ?_
  refine jq ?_
  refine WS.pblock rfl ?_
  refine jq ?_
  refine jg ?_
  iterate 2 refine jo ?_
  refine jI ?_
  refine jP ?_
  refine WS.po (tb := tb) rfl rfl rfl rfl (step_R rfl (evR_load rfl rfl rfl rfl (cellsR_get0 hx rfl))) ?_
  refine je ?_
  refine WS.pblock rfl ?_
  refine jq ?_
  refine jg ?_
  refine jB false ?_
  refine jo ?_
  refine je ?_
  refine WS.pcondF rfl rfl ?_
  refine jq ?_
  refine jg ?_
  refine jB true ?_
  refine jo ?_
  refine je ?_
  refine WS.pcondT rfl rfl ?_
  refine jg ?_
  iterate 3 refine jo ?_
  refine jI ?_
  refine jP ?_
  refine WS.po (tb := tb) rfl rfl rfl rfl (step_R rfl (evR_load rfl rfl rfl rfl (cellsR_get hx rfl))) ?_
  refine jc [2,3,4] E1 (by simp [jOb]) (by simp [jEb, jOb, jMb, mapL_cellsR, okL_cellsR]) ?_; rintro _ _ ⟨rfl, rfl⟩ -; simp only [jPg, jMb, ll, Nat.reduceAdd, Nat.reduceLT, Nat.zero_add, if_true, if_false, Nat.reduceSub, reduceIte, mapL_cellsR, Nat.lt_irrefl, Nat.not_lt_zero, Nat.zero_lt_succ, Nat.lt_add_one]
  refine je ?_
  refine jg ?_
  refine jo ?_
  refine jW ?_
  refine jo ?_
  refine je ?_
  refine WS.nil ?_
  exact ⟨rfl, (i + 1, y), ⟨hi, H', hio', hlen', hp', by simp only; omega, by simp only; omega, by simp only; omega⟩, by simp only; omega, (jSn [0,1,2,3,4] (by simp [jVb, jOb, jMb, mapL_cellsR, okL_cellsR, SSl, LM, ndB, boxA, List.cons_append, List.nil_append]) (by simp only [jSl, jOb, jMb, Nat.reduceAdd, Nat.reduceLT, SSl, LM, ndB, boxA, List.cons_append, List.nil_append] <;> exact jClo))⟩
theorem pl_prog (b p np : Nat) (l : List Act) (u : Act) (c i : Nat) (at_ by_ : Int) (x : NS) (op a short fill : Int) (H : InvL b p np l.length (i, x)) (hl : l.length ≤ 30) (hx : l[i]? = some ⟨op, a, short, fill⟩) (hg : goodA ⟨op, a, short, fill⟩) (ho : op = 0) :
    WS Try.prog (frameN Try.f7 6) 1 [.c (k1 (k1 (k2 (k1 (k2 (k2 (k2 (k2 (k2 (kb Try.f7))))))))))] (slt (SSl b p l c at_ by_ i)) (mem 0 (LM l u x)) (PostL b p np l u c at_ by_ (i, x)) := by
  have hi : i < l.length := (List.getElem?_eq_some_iff.1 hx).1
  obtain ⟨hle, H, hio, hlen, hp, hrd, hpr, her⟩ := H
  dsimp only at H hio hlen hp hrd hpr her
  have hga := wf64 hg.2.1
  dsimp only at hga
  subst ho
  obtain ⟨n, hn⟩ : ∃ n, n = dlen short := ⟨_, rfl⟩
  have hn1 : 1 ≤ n ∧ n ≤ 200 := by rw [hn]; unfold dlen; split <;> omega
  have DW := data_walk 0 a short fill
  rw [← hn] at DW
  have hDl := dtL_len fill n
  generalize dtL fill n = D at *
  obtain ⟨H', K', q1, q2, q3⟩ := pgS_ok H a D (by omega)
  have hio' := pgS_IOk H hio a D
  have P1 := program_any x np H a n n false D [] (.inl rfl) hDl (by omega) (by omega)
  rw [List.append_nil] at P1
  generalize hy : pgS x np a D = y at *
  have hlen' : y.bk.length = b := K'.len.trans hlen
  have hp' : y.p = p := K'.p.trans hp
  simp only [ndM, dtB, List.cons_append, List.nil_append] at P1
  simp only [SSl, LM, ndB, boxA, List.cons_append, List.nil_append]
  iterate 2 refine jq ?_
  refine jg ?_
  iterate 3 refine jo ?_
  refine jDT ?_
  refine je ?_
  refine WS.pcondT rfl rfl ?_
  refine WS.pskip rfl ?_
  refine jq ?_
  refine WS.pblock rfl ?_
  refine jq ?_
  refine jg ?_
  iterate 2 refine jo ?_
  refine jI ?_
  refine jP ?_
  refine WS.po (tb := tb) rfl rfl rfl rfl (step_R rfl (evR_load rfl rfl rfl rfl (cellsR_get0 hx rfl))) ?_
  refine je ?_
  refine WS.pblock rfl ?_
  refine jq ?_
  refine jg ?_
  refine jB true ?_
  refine jo ?_
  refine je ?_
  refine WS.pcondT rfl rfl ?_
  refine WS.pdrawX (tb := tb) (by kernel_rfl) rfl (by kernel_rfl) ?_; (try refine WZ.keep (l := 0) rfl ?_)
  refine WZ.p (tb := tb) rfl rfl rfl rfl rfl ?_
  refine WZ.p (tb := tb) rfl rfl rfl rfl rfl ?_
  refine WZ.p (tb := tb) rfl rfl rfl rfl rfl ?_
  refine WZ.pP (tb := tb) rfl rfl rfl rfl (evP_index rfl rfl rfl rfl rfl rfl (by omega)) (by simp only [Nat.zero_add, Nat.add_zero, Nat.reduceAdd, Nat.reduceMul, Nat.add_assoc, Nat.mul_one]; exact rfl) ?_
  refine WZ.pP (tb := tb) rfl rfl rfl rfl rfl (by simp only [nl, nz, Nat.reduceAdd, Nat.reduceMul, Int.reduceToNat]; exact rfl) ?_
  refine WZ.sL (tb := tb) rfl rfl rfl rfl rfl rfl rfl rfl rfl (cellsR_get hx rfl) ?_
  refine WZ.p (tb := tb) rfl rfl rfl rfl rfl ?_
  refine WZ.p (tb := tb) rfl rfl rfl rfl rfl ?_
  refine WZ.pP (tb := tb) rfl rfl rfl rfl (evP_index rfl rfl rfl rfl rfl rfl (by omega)) (by simp only [Nat.zero_add, Nat.add_zero, Nat.reduceAdd, Nat.reduceMul, Nat.add_assoc, Nat.mul_one]; exact rfl) ?_
  refine WZ.sLA (tb := tb) rfl rfl rfl rfl rfl rfl rfl rfl rfl rfl (by exact (cellsR_part0 (R := rwAct) hx (by exact Nat.le_of_ble_eq_true rfl))) (by exact rfl) (by simp only [List.drop_zero, List.drop_succ_cons, List.take_succ_cons, List.take_zero, rwBk, rwAct]; exact rfl) ?_
  refine WZ.callM (tb := tb) [] DW rfl rfl rfl rfl rfl rfl rfl rfl (by (try simp only [mapL, mapV, ll]) <;> exact rfl) (by simp [okL, okV]; fail_if_success exfalso) rfl (by simp [embP, okL, okV, mapL, mapV, mem_next, mem_get, mem_ro, mapL_cellsR, okL_cellsR]; fail_if_success exfalso) rfl rfl rfl (by repeat (first | exact trivial | refine ⟨rfl, ?_⟩)) ?_; simp only [jPg, jMb, ll, Nat.reduceAdd, Nat.reduceLT, Nat.zero_add, if_true, if_false, Nat.reduceSub, reduceIte, mapL_cellsR, Nat.lt_irrefl, Nat.not_lt_zero, Nat.zero_lt_succ, Nat.lt_add_one]
  refine WZ.callM (tb := tb) [2,3,4,5] P1 rfl rfl rfl rfl rfl rfl rfl rfl (by (try simp only [mapL, mapV, ll]) <;> exact rfl) (by simp [okL, okV]; fail_if_success exfalso) rfl (by simp [embP, okL, okV, mapL, mapV, mem_next, mem_get, mem_ro, mapL_cellsR, okL_cellsR]; fail_if_success exfalso) rfl rfl rfl (by repeat (first | exact trivial | refine ⟨rfl, ?_⟩)) ?_; simp only [jPg, jMb, ll, Nat.reduceAdd, Nat.reduceLT, Nat.zero_add, if_true, if_false, Nat.reduceSub, reduceIte, mapL_cellsR, Nat.lt_irrefl, Nat.not_lt_zero, Nat.zero_lt_succ, Nat.lt_add_one]
  refine WZ.fin rfl (by kernel_rfl) (by repeat (first | exact trivial | refine ⟨rfl, ?_⟩)) ?_
  refine jg ?_
  refine jo ?_
  refine jW ?_
  refine jo ?_
  refine je ?_
  refine WS.nil ?_
  exact ⟨rfl, (i + 1, y), ⟨hi, H', hio', hlen', hp', by simp only; omega, by simp only; omega, by simp only; omega⟩, by simp only; omega, (jSn [0,1,2,3,4] (by simp [jVb, jOb, jMb, mapL_cellsR, okL_cellsR, SSl, LM, ndB, boxA, List.cons_append, List.nil_append]) (by simp only [jSl, jOb, jMb, Nat.reduceAdd, Nat.reduceLT, SSl, LM, ndB, boxA, List.cons_append, List.nil_append] <;> exact jClo))⟩
end Go.Proofs.Ytmkolibmadbenaa.Am

