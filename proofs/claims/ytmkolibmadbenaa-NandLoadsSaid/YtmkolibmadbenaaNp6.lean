/- Functions of the flash, walked. Conditions: those of each theorem. -/
import Derived.Test.YtmkolibmadbenaaAm5
import Derived.Test.YtmkolibmadbenaaNp5
import Derived.Test.YtmkolibmadbenaaNs2
namespace Go.Proofs.Ytmkolibmadbenaa.Am
open Go.Proofs
set_option maxRecDepth 1000000
set_option maxHeartbeats 4000000
set_option linter.unusedSimpArgs false
set_option linter.unusedVariables false
def ndB (o : Nat) (x : NS) : List (Option Blk) := [some ⟨cellsR (rwI .u8) x.bs, 5, true⟩, some ⟨cellsR rwBk x.bk, 70, true⟩,
  some ⟨[.i .i64 x.p, .sl (some (o,0)) x.bs.length x.bs.length false, .sl (some (o+1,0)) x.bk.length x.bk.length false, .b x.off, .i .i64 x.cut, .i .i64 x.fail, .i .i64 x.rd, .i .i64 x.pr, .i .i64 x.er], 66, true⟩]
def PM (l : List Act) (x : NS) : List (Option Blk) := [some ⟨cellsR rwAct l, 38, false⟩] ++ ndB 1 x ++ rfB 4 x
abbrev StP := Nat × NS
def SSp (b p : Nat) (l : List Act) (c : Nat) (a : StP) : List (Nat × V) := [(0, .i .i64 b), (1, .i .i64 p), (2, .sl (some (0,0)) l.length c false), (7, .p (some (3,0))), (9, .p (some (8,0))), (10, .i .i64 a.1)]
structure InvP (np m : Nat) (a : StP) : Prop where
  le : a.1 ≤ m
  ok : NOk a.2 np
  rd : a.2.rd ≤ 2 * a.1
  pr : a.2.pr ≤ a.1
  er : a.2.er ≤ a.1
def goodA (y : Act) : Prop := (Lit.int .i64 y.op).wf = true ∧ (Lit.int .i64 y.a).wf = true ∧ (Lit.int .i64 y.short).wf = true ∧ (Lit.int .u8 y.fill).wf = true
theorem ns0_ok (b p np : Nat) (h1 : 1 ≤ b) (h2 : b ≤ 64) (h3 : 1 ≤ p) (h4 : p ≤ 32) (hp : (b : Int) * p = (np : Int)) (h0 : 1 ≤ np) (hnp : np ≤ 10000) : NOk (ns0 b p np) np := by
  have hm : ∀ y ∈ (ns0 b p np).bk, y = ⟨0, false, false, 0⟩ := fun y hy => (List.mem_replicate.1 hy).2
  refine ⟨by simp only [ns0, List.length_replicate]; exact hp, h0, hnp, by simp only [ns0, List.length_replicate]; exact h1, by simp only [ns0, List.length_replicate]; omega, h3, h4, by simp only [ns0, List.length_replicate], fun y hy => ?_, fun y hy => ?_, ?_, ?_, ?_, ?_, ?_, ?_, ?_, ?_, ?_, ?_⟩
  · rw [hm y hy]; exact ⟨Int.le_refl _, by simp only; omega⟩
  · rw [hm y hy]; exact ⟨Int.le_refl _, Int.le_refl _⟩
  all_goals simp only [ns0]; omega
abbrev PostP (b p np : Nat) (l : List Act) (c : Nat) (s : StP) : Ex → T V → LH → Prop := fun x t' h' => match x with
  | .n => ∃ s', InvP np l.length s' ∧ l.length - s'.1 < l.length - s.1 ∧ Seen 1 t' h' (SSp b p l c s') (PM l s'.2)
  | .x j => j = 0 ∧ ∃ b : Unit, True ∧ Seen 1 t' h' [] [some ⟨cellsR rwAct l, 38, false⟩]
  | .r => False
theorem rdS_ok {x : NS} {np : Nat} (H : NOk x np) (z : Int) (h : x.rd + 1 ≤ 1000) : NOk (rdS x np z) np ∧ (rdS x np z).rd ≤ x.rd + 1 ∧ (rdS x np z).pr = x.pr ∧ (rdS x np z).er = x.er := by
  unfold rdS
  split
  · exact ⟨nok_of H ⟨rfl, rfl, rfl⟩ H.nx H.wr H.cut1 H.cut2 H.fail1 H.fail2 (by have := H.rd1; simp only; omega) h H.pr1 H.pr2 H.er1 H.er2, Int.le_refl _, rfl, rfl⟩
  · exact ⟨H, by omega, rfl, rfl⟩
/-- A round, a call being carried out. -/
theorem inv_next {np m i : Nat} {x' : NS} (z : Int) (hi : i < m) (hm : m ≤ 40) (H : NOk x' np) (h1 : x'.rd ≤ 2 * i + 1) (h2 : x'.pr ≤ i + 1) (h3 : x'.er ≤ i + 1) : InvP np m (i + 1, rdS x' np z) := by
  obtain ⟨g1, g2, g3, g4⟩ := rdS_ok H z (by omega)
  exact ⟨hi, g1, by simp only; omega, by simp only; omega, by simp only; omega⟩
theorem wf64 {z : Int} (h : (Lit.int .i64 z).wf = true) : -9223372036854775808 ≤ z ∧ z ≤ 9223372036854775807 := by
  simp only [Lit.wf, IntKind.min, IntKind.max, IntKind.signed, IntKind.bits, Bool.and_eq_true, decide_eq_true_eq, if_true, Bool.false_eq_true, if_false] at h; omega
theorem pb_none (b p np : Nat) (l : List Act) (c i : Nat) (x : NS) (op a short fill : Int) (H : InvP np l.length (i, x)) (hl : l.length ≤ 40) (hx : l[i]? = some ⟨op, a, short, fill⟩) (hg : goodA ⟨op, a, short, fill⟩) (ho : ¬ op = 0 ∧ ¬ op = 1 ∧ ¬ op = 2 ∧ ¬ op = 3 ∧ ¬ op = 4 ∧ ¬ op = 5) :
    WS Try.prog (frameN Try.f4 3) 1 [.c (k1 (k1 (k2 (k1 (k2 (k2 (k2 (k2 (k2 (k2 (kb Try.f4)))))))))))] (slt (SSp b p l c (i, x))) (mem 0 (PM l x)) (PostP b p np l c (i, x)) := by
  have hi : i < l.length := (List.getElem?_eq_some_iff.1 hx).1
  obtain ⟨hle, H, hrd, hpr, her⟩ := H
  dsimp only at H hrd hpr her
  have hga := wf64 hg.2.1
  dsimp only at hga
  obtain ⟨o0, o1, o2, o3, o4, o5⟩ := ho
  have I := is_walk x np a H
  simp only [isM, ndM, rfB, List.cons_append, List.nil_append] at I
  simp only [SSp, PM, ndB, rfB, List.cons_append, List.nil_append]
  iterate 2 refine jq ?_
  refine jg ?_
  iterate 3 refine jo ?_
  refine jDT ?_
  refine je ?_
  refine WS.pcondT rfl rfl ?_
  refine WS.pskip rfl ?_
  refine jq ?_
  refine WS.pblock rfl ?_
  refine jq ?_
  refine jg ?_
  iterate 2 refine jo ?_
  refine jI ?_
  refine WS.poA (tb := tb) rfl rfl rfl rfl (step_R rfl (evR_loads rfl rfl rfl rfl rfl (by exact (cellsR_part0 (R := rwAct) hx (by exact Nat.le_of_ble_eq_true rfl))) (by exact rfl))) (by simp only [List.drop_zero, List.drop_succ_cons, List.take_succ_cons, List.take_zero, rwBk, rwAct]; exact rfl) ?_
  refine jn ?_
  refine js ?_
  refine je ?_
  iterate 2 refine jq ?_
  refine jg ?_
  refine jP ?_
  refine jo ?_
  refine je ?_
  refine WS.pblock rfl ?_
  refine jq ?_
  refine jg ?_
  refine jDF ?_
  refine jo ?_
  refine je ?_
  refine WS.pcondF rfl rfl ?_
  refine jq ?_
  refine jg ?_
  refine jDF ?_
  refine jo ?_
  refine je ?_
  refine WS.pcondF rfl rfl ?_
  refine jq ?_
  refine jg ?_
  refine jDF ?_
  refine jo ?_
  refine je ?_
  refine WS.pcondF rfl rfl ?_
  refine jq ?_
  refine jg ?_
  refine jDF ?_
  refine jo ?_
  refine je ?_
  refine WS.pcondF rfl rfl ?_
  refine jq ?_
  refine jg ?_
  refine jDF ?_
  refine jo ?_
  refine je ?_
  refine WS.pcondF rfl rfl ?_
  refine jq ?_
  refine jg ?_
  refine jDF ?_
  refine jo ?_
  refine je ?_
  refine WS.pcondF rfl rfl ?_
  refine WS.pskip rfl ?_
  refine jq ?_
  refine jg ?_
  iterate 2 refine jo ?_
  refine jP ?_
  refine jo ?_
  refine jc [1,2,3,4,5,6,7,8] I (by simp [jOb]) (by simp [jEb, jOb, jMb, mapL_cellsR, okL_cellsR]) ?_; rintro _ _ ⟨rfl, rfl⟩ -; simp only [jPg, jMb, ll, Nat.reduceAdd, Nat.reduceLT, Nat.zero_add, if_true, if_false, Nat.reduceSub, reduceIte, mapL_cellsR, Nat.lt_irrefl, Nat.not_lt_zero, Nat.zero_lt_succ, Nat.lt_add_one]
  refine jB false ?_
  refine je ?_
  refine WS.pcondF rfl rfl ?_
  refine WS.pskip rfl ?_
  refine jg ?_
  refine jo ?_
  refine jW ?_
  refine jo ?_
  refine je ?_
  refine WS.nil ?_
  exact ⟨(i + 1, rdS x np a), inv_next a hi hl H (by omega) (by omega) (by omega), by simp only; omega, (jSn [0,1,2,3,4,5,6,7,8] (by simp [jVb, jOb, jMb, mapL_cellsR, okL_cellsR, SSp, PM, ndB, rfB]) (by simp only [jSl, jOb, jMb, Nat.reduceAdd, Nat.reduceLT, SSp, PM, ndB, rfB] <;> exact jClo))⟩
theorem pb_cut (b p np : Nat) (l : List Act) (c i : Nat) (x : NS) (op a short fill : Int) (H : InvP np l.length (i, x)) (hl : l.length ≤ 40) (hx : l[i]? = some ⟨op, a, short, fill⟩) (hg : goodA ⟨op, a, short, fill⟩) (ho : op = 3) :
    WS Try.prog (frameN Try.f4 3) 1 [.c (k1 (k1 (k2 (k1 (k2 (k2 (k2 (k2 (k2 (k2 (kb Try.f4)))))))))))] (slt (SSp b p l c (i, x))) (mem 0 (PM l x)) (PostP b p np l c (i, x)) := by
  have hi : i < l.length := (List.getElem?_eq_some_iff.1 hx).1
  obtain ⟨hle, H, hrd, hpr, her⟩ := H
  dsimp only at H hrd hpr her
  have hga := wf64 hg.2.1
  dsimp only at hga
  subst ho
  have H' : NOk { x with cut := max a (-1) } np := nok_of H ⟨rfl, rfl, rfl⟩ H.nx H.wr (by simp only; omega) (by simp only; omega) H.fail1 H.fail2 H.rd1 H.rd2 H.pr1 H.pr2 H.er1 H.er2
  have C := cut_walk x a
  have I := is_walk { x with cut := max a (-1) } np a H'
  simp only [isM, ndM, rfB, List.cons_append, List.nil_append] at I C
  simp only [SSp, PM, ndB, rfB, List.cons_append, List.nil_append]
  by_cases h0 : 0 ≤ a
  · have hm : max a (-1) = a := by omega
    simp only [hm] at C I H'
    iterate 2 refine jq ?_
    refine jg ?_
    iterate 3 refine jo ?_
    refine jDT ?_
    refine je ?_
    refine WS.pcondT rfl rfl ?_
    refine WS.pskip rfl ?_
    refine jq ?_
    refine WS.pblock rfl ?_
    refine jq ?_
    refine jg ?_
    iterate 2 refine jo ?_
    refine jI ?_
    refine WS.poA (tb := tb) rfl rfl rfl rfl (step_R rfl (evR_loads rfl rfl rfl rfl rfl (by exact (cellsR_part0 (R := rwAct) hx (by exact Nat.le_of_ble_eq_true rfl))) (by exact rfl))) (by simp only [List.drop_zero, List.drop_succ_cons, List.take_succ_cons, List.take_zero, rwBk, rwAct]; exact rfl) ?_
    refine jn ?_
    refine js ?_
    refine je ?_
    iterate 2 refine jq ?_
    refine jg ?_
    refine jP ?_
    refine jo ?_
    refine je ?_
    refine WS.pblock rfl ?_
    refine jq ?_
    refine jg ?_
    refine jB false ?_
    refine jo ?_
    refine je ?_
    refine WS.pcondF rfl rfl ?_
    refine jq ?_
    refine jg ?_
    refine jB false ?_
    refine jo ?_
    refine je ?_
    refine WS.pcondF rfl rfl ?_
    refine jq ?_
    refine jg ?_
    refine jB false ?_
    refine jo ?_
    refine je ?_
    refine WS.pcondF rfl rfl ?_
    refine jq ?_
    refine jg ?_
    refine jB true ?_
    refine jo ?_
    refine je ?_
    refine WS.pcondT rfl rfl ?_
    refine jq ?_
    refine jg ?_
    refine jo ?_
    refine jP ?_
    refine jo ?_
    refine jc [1,2,3] C (by simp [jOb]) (by simp [jEb, jOb, jMb, mapL_cellsR, okL_cellsR]) ?_; rintro _ _ ⟨rfl, rfl⟩ -; simp only [jPg, jMb, ll, Nat.reduceAdd, Nat.reduceLT, Nat.zero_add, if_true, if_false, Nat.reduceSub, reduceIte, mapL_cellsR, Nat.lt_irrefl, Nat.not_lt_zero, Nat.zero_lt_succ, Nat.lt_add_one]
    refine je ?_
    refine jq ?_
    refine jg ?_
    iterate 2 refine jo ?_
    refine jP ?_
    refine js ?_
    refine je ?_
    refine jq ?_
    refine jg ?_
    refine jP ?_
    refine jo ?_
    refine jDT ?_
    refine je ?_
    refine WS.pcondT rfl rfl ?_
    refine jg ?_
    refine jo ?_
    refine jP ?_
    iterate 2 refine jo ?_
    refine jP ?_
    refine js ?_
    refine je ?_
    refine jq ?_
    refine jg ?_
    iterate 2 refine jo ?_
    refine jP ?_
    refine jo ?_
    refine jc [1,2,3,4,5,6,7,8] I (by simp [jOb]) (by simp [jEb, jOb, jMb, mapL_cellsR, okL_cellsR]) ?_; rintro _ _ ⟨rfl, rfl⟩ -; simp only [jPg, jMb, ll, Nat.reduceAdd, Nat.reduceLT, Nat.zero_add, if_true, if_false, Nat.reduceSub, reduceIte, mapL_cellsR, Nat.lt_irrefl, Nat.not_lt_zero, Nat.zero_lt_succ, Nat.lt_add_one]
    refine jB false ?_
    refine je ?_
    refine WS.pcondF rfl rfl ?_
    refine WS.pskip rfl ?_
    refine jg ?_
    refine jo ?_
    refine jW ?_
    refine jo ?_
    refine je ?_
    refine WS.nil ?_
    exact ⟨(i + 1, rdS { x with cut := a } np a), inv_next a hi hl H' (by simp only; omega) (by simp only; omega) (by simp only; omega), by simp only; omega, (jSn [0,1,2,3,4,5,6,7,8] (by simp [jVb, jOb, jMb, mapL_cellsR, okL_cellsR, SSp, PM, ndB, rfB]) (by simp only [jSl, jOb, jMb, Nat.reduceAdd, Nat.reduceLT, SSp, PM, ndB, rfB] <;> exact jClo))⟩
  · have hm : max a (-1) = -1 := by omega
    simp only [hm] at C I H'
    iterate 2 refine jq ?_
    refine jg ?_
    iterate 3 refine jo ?_
    refine jDT ?_
    refine je ?_
    refine WS.pcondT rfl rfl ?_
    refine WS.pskip rfl ?_
    refine jq ?_
    refine WS.pblock rfl ?_
    refine jq ?_
    refine jg ?_
    iterate 2 refine jo ?_
    refine jI ?_
    refine WS.poA (tb := tb) rfl rfl rfl rfl (step_R rfl (evR_loads rfl rfl rfl rfl rfl (by exact (cellsR_part0 (R := rwAct) hx (by exact Nat.le_of_ble_eq_true rfl))) (by exact rfl))) (by simp only [List.drop_zero, List.drop_succ_cons, List.take_succ_cons, List.take_zero, rwBk, rwAct]; exact rfl) ?_
    refine jn ?_
    refine js ?_
    refine je ?_
    iterate 2 refine jq ?_
    refine jg ?_
    refine jP ?_
    refine jo ?_
    refine je ?_
    refine WS.pblock rfl ?_
    refine jq ?_
    refine jg ?_
    refine jB false ?_
    refine jo ?_
    refine je ?_
    refine WS.pcondF rfl rfl ?_
    refine jq ?_
    refine jg ?_
    refine jB false ?_
    refine jo ?_
    refine je ?_
    refine WS.pcondF rfl rfl ?_
    refine jq ?_
    refine jg ?_
    refine jB false ?_
    refine jo ?_
    refine je ?_
    refine WS.pcondF rfl rfl ?_
    refine jq ?_
    refine jg ?_
    refine jB true ?_
    refine jo ?_
    refine je ?_
    refine WS.pcondT rfl rfl ?_
    refine jq ?_
    refine jg ?_
    refine jo ?_
    refine jP ?_
    refine jo ?_
    refine jc [1,2,3] C (by simp [jOb]) (by simp [jEb, jOb, jMb, mapL_cellsR, okL_cellsR]) ?_; rintro _ _ ⟨rfl, rfl⟩ -; simp only [jPg, jMb, ll, Nat.reduceAdd, Nat.reduceLT, Nat.zero_add, if_true, if_false, Nat.reduceSub, reduceIte, mapL_cellsR, Nat.lt_irrefl, Nat.not_lt_zero, Nat.zero_lt_succ, Nat.lt_add_one]
    refine je ?_
    refine jq ?_
    refine jg ?_
    iterate 2 refine jo ?_
    refine jP ?_
    refine js ?_
    refine je ?_
    refine jq ?_
    refine jg ?_
    refine jP ?_
    refine jo ?_
    refine jDF ?_
    refine je ?_
    refine WS.pcondF rfl rfl ?_
    refine WS.pskip rfl ?_
    refine jq ?_
    refine jg ?_
    iterate 2 refine jo ?_
    refine jP ?_
    refine jo ?_
    refine jc [1,2,3,4,5,6,7,8] I (by simp [jOb]) (by simp [jEb, jOb, jMb, mapL_cellsR, okL_cellsR]) ?_; rintro _ _ ⟨rfl, rfl⟩ -; simp only [jPg, jMb, ll, Nat.reduceAdd, Nat.reduceLT, Nat.zero_add, if_true, if_false, Nat.reduceSub, reduceIte, mapL_cellsR, Nat.lt_irrefl, Nat.not_lt_zero, Nat.zero_lt_succ, Nat.lt_add_one]
    refine jB false ?_
    refine je ?_
    refine WS.pcondF rfl rfl ?_
    refine WS.pskip rfl ?_
    refine jg ?_
    refine jo ?_
    refine jW ?_
    refine jo ?_
    refine je ?_
    refine WS.nil ?_
    exact ⟨(i + 1, rdS { x with cut := -1 } np a), inv_next a hi hl H' (by simp only; omega) (by simp only; omega) (by simp only; omega), by simp only; omega, (jSn [0,1,2,3,4,5,6,7,8] (by simp [jVb, jOb, jMb, mapL_cellsR, okL_cellsR, SSp, PM, ndB, rfB]) (by simp only [jSl, jOb, jMb, Nat.reduceAdd, Nat.reduceLT, SSp, PM, ndB, rfB] <;> exact jClo))⟩
theorem pb_fail (b p np : Nat) (l : List Act) (c i : Nat) (x : NS) (op a short fill : Int) (H : InvP np l.length (i, x)) (hl : l.length ≤ 40) (hx : l[i]? = some ⟨op, a, short, fill⟩) (hg : goodA ⟨op, a, short, fill⟩) (ho : op = 4) :
    WS Try.prog (frameN Try.f4 3) 1 [.c (k1 (k1 (k2 (k1 (k2 (k2 (k2 (k2 (k2 (k2 (kb Try.f4)))))))))))] (slt (SSp b p l c (i, x))) (mem 0 (PM l x)) (PostP b p np l c (i, x)) := by
  have hi : i < l.length := (List.getElem?_eq_some_iff.1 hx).1
  obtain ⟨hle, H, hrd, hpr, her⟩ := H
  dsimp only at H hrd hpr her
  have hga := wf64 hg.2.1
  dsimp only at hga
  subst ho
  have H' : NOk { x with fail := max a (-1) } np := nok_of H ⟨rfl, rfl, rfl⟩ H.nx H.wr H.cut1 H.cut2 (by simp only; omega) (by simp only; omega) H.rd1 H.rd2 H.pr1 H.pr2 H.er1 H.er2
  have C := failc_walk x a
  have I := is_walk { x with fail := max a (-1) } np a H'
  simp only [isM, ndM, rfB, List.cons_append, List.nil_append] at I C
  simp only [SSp, PM, ndB, rfB, List.cons_append, List.nil_append]
  by_cases h0 : 0 ≤ a
  · have hm : max a (-1) = a := by omega
    simp only [hm] at C I H'
    iterate 2 refine jq ?_
    refine jg ?_
    iterate 3 refine jo ?_
    refine jDT ?_
    refine je ?_
    refine WS.pcondT rfl rfl ?_
    refine WS.pskip rfl ?_
    refine jq ?_
    refine WS.pblock rfl ?_
    refine jq ?_
    refine jg ?_
    iterate 2 refine jo ?_
    refine jI ?_
    refine WS.poA (tb := tb) rfl rfl rfl rfl (step_R rfl (evR_loads rfl rfl rfl rfl rfl (by exact (cellsR_part0 (R := rwAct) hx (by exact Nat.le_of_ble_eq_true rfl))) (by exact rfl))) (by simp only [List.drop_zero, List.drop_succ_cons, List.take_succ_cons, List.take_zero, rwBk, rwAct]; exact rfl) ?_
    refine jn ?_
    refine js ?_
    refine je ?_
    iterate 2 refine jq ?_
    refine jg ?_
    refine jP ?_
    refine jo ?_
    refine je ?_
    refine WS.pblock rfl ?_
    refine jq ?_
    refine jg ?_
    refine jB false ?_
    refine jo ?_
    refine je ?_
    refine WS.pcondF rfl rfl ?_
    refine jq ?_
    refine jg ?_
    refine jB false ?_
    refine jo ?_
    refine je ?_
    refine WS.pcondF rfl rfl ?_
    refine jq ?_
    refine jg ?_
    refine jB false ?_
    refine jo ?_
    refine je ?_
    refine WS.pcondF rfl rfl ?_
    refine jq ?_
    refine jg ?_
    refine jB false ?_
    refine jo ?_
    refine je ?_
    refine WS.pcondF rfl rfl ?_
    refine jq ?_
    refine jg ?_
    refine jB true ?_
    refine jo ?_
    refine je ?_
    refine WS.pcondT rfl rfl ?_
    refine jq ?_
    refine jg ?_
    refine jo ?_
    refine jP ?_
    refine jo ?_
    refine jc [1,2,3] C (by simp [jOb]) (by simp [jEb, jOb, jMb, mapL_cellsR, okL_cellsR]) ?_; rintro _ _ ⟨rfl, rfl⟩ -; simp only [jPg, jMb, ll, Nat.reduceAdd, Nat.reduceLT, Nat.zero_add, if_true, if_false, Nat.reduceSub, reduceIte, mapL_cellsR, Nat.lt_irrefl, Nat.not_lt_zero, Nat.zero_lt_succ, Nat.lt_add_one]
    refine je ?_
    refine jq ?_
    refine jg ?_
    iterate 2 refine jo ?_
    refine jP ?_
    refine js ?_
    refine je ?_
    refine jq ?_
    refine jg ?_
    refine jP ?_
    refine jo ?_
    refine jDT ?_
    refine je ?_
    refine WS.pcondT rfl rfl ?_
    refine jg ?_
    refine jo ?_
    refine jP ?_
    iterate 2 refine jo ?_
    refine jP ?_
    refine js ?_
    refine je ?_
    refine jq ?_
    refine jg ?_
    iterate 2 refine jo ?_
    refine jP ?_
    refine jo ?_
    refine jc [1,2,3,4,5,6,7,8] I (by simp [jOb]) (by simp [jEb, jOb, jMb, mapL_cellsR, okL_cellsR]) ?_; rintro _ _ ⟨rfl, rfl⟩ -; simp only [jPg, jMb, ll, Nat.reduceAdd, Nat.reduceLT, Nat.zero_add, if_true, if_false, Nat.reduceSub, reduceIte, mapL_cellsR, Nat.lt_irrefl, Nat.not_lt_zero, Nat.zero_lt_succ, Nat.lt_add_one]
    refine jB false ?_
    refine je ?_
    refine WS.pcondF rfl rfl ?_
    refine WS.pskip rfl ?_
    refine jg ?_
    refine jo ?_
    refine jW ?_
    refine jo ?_
    refine je ?_
    refine WS.nil ?_
    exact ⟨(i + 1, rdS { x with fail := a } np a), inv_next a hi hl H' (by simp only; omega) (by simp only; omega) (by simp only; omega), by simp only; omega, (jSn [0,1,2,3,4,5,6,7,8] (by simp [jVb, jOb, jMb, mapL_cellsR, okL_cellsR, SSp, PM, ndB, rfB]) (by simp only [jSl, jOb, jMb, Nat.reduceAdd, Nat.reduceLT, SSp, PM, ndB, rfB] <;> exact jClo))⟩
  · have hm : max a (-1) = -1 := by omega
    simp only [hm] at C I H'
    iterate 2 refine jq ?_
    refine jg ?_
    iterate 3 refine jo ?_
    refine jDT ?_
    refine je ?_
    refine WS.pcondT rfl rfl ?_
    refine WS.pskip rfl ?_
    refine jq ?_
    refine WS.pblock rfl ?_
    refine jq ?_
    refine jg ?_
    iterate 2 refine jo ?_
    refine jI ?_
    refine WS.poA (tb := tb) rfl rfl rfl rfl (step_R rfl (evR_loads rfl rfl rfl rfl rfl (by exact (cellsR_part0 (R := rwAct) hx (by exact Nat.le_of_ble_eq_true rfl))) (by exact rfl))) (by simp only [List.drop_zero, List.drop_succ_cons, List.take_succ_cons, List.take_zero, rwBk, rwAct]; exact rfl) ?_
    refine jn ?_
    refine js ?_
    refine je ?_
    iterate 2 refine jq ?_
    refine jg ?_
    refine jP ?_
    refine jo ?_
    refine je ?_
    refine WS.pblock rfl ?_
    refine jq ?_
    refine jg ?_
    refine jB false ?_
    refine jo ?_
    refine je ?_
    refine WS.pcondF rfl rfl ?_
    refine jq ?_
    refine jg ?_
    refine jB false ?_
    refine jo ?_
    refine je ?_
    refine WS.pcondF rfl rfl ?_
    refine jq ?_
    refine jg ?_
    refine jB false ?_
    refine jo ?_
    refine je ?_
    refine WS.pcondF rfl rfl ?_
    refine jq ?_
    refine jg ?_
    refine jB false ?_
    refine jo ?_
    refine je ?_
    refine WS.pcondF rfl rfl ?_
    refine jq ?_
    refine jg ?_
    refine jB true ?_
    refine jo ?_
    refine je ?_
    refine WS.pcondT rfl rfl ?_
    refine jq ?_
    refine jg ?_
    refine jo ?_
    refine jP ?_
    refine jo ?_
    refine jc [1,2,3] C (by simp [jOb]) (by simp [jEb, jOb, jMb, mapL_cellsR, okL_cellsR]) ?_; rintro _ _ ⟨rfl, rfl⟩ -; simp only [jPg, jMb, ll, Nat.reduceAdd, Nat.reduceLT, Nat.zero_add, if_true, if_false, Nat.reduceSub, reduceIte, mapL_cellsR, Nat.lt_irrefl, Nat.not_lt_zero, Nat.zero_lt_succ, Nat.lt_add_one]
    refine je ?_
    refine jq ?_
    refine jg ?_
    iterate 2 refine jo ?_
    refine jP ?_
    refine js ?_
    refine je ?_
    refine jq ?_
    refine jg ?_
    refine jP ?_
    refine jo ?_
    refine jDF ?_
    refine je ?_
    refine WS.pcondF rfl rfl ?_
    refine WS.pskip rfl ?_
    refine jq ?_
    refine jg ?_
    iterate 2 refine jo ?_
    refine jP ?_
    refine jo ?_
    refine jc [1,2,3,4,5,6,7,8] I (by simp [jOb]) (by simp [jEb, jOb, jMb, mapL_cellsR, okL_cellsR]) ?_; rintro _ _ ⟨rfl, rfl⟩ -; simp only [jPg, jMb, ll, Nat.reduceAdd, Nat.reduceLT, Nat.zero_add, if_true, if_false, Nat.reduceSub, reduceIte, mapL_cellsR, Nat.lt_irrefl, Nat.not_lt_zero, Nat.zero_lt_succ, Nat.lt_add_one]
    refine jB false ?_
    refine je ?_
    refine WS.pcondF rfl rfl ?_
    refine WS.pskip rfl ?_
    refine jg ?_
    refine jo ?_
    refine jW ?_
    refine jo ?_
    refine je ?_
    refine WS.nil ?_
    exact ⟨(i + 1, rdS { x with fail := -1 } np a), inv_next a hi hl H' (by simp only; omega) (by simp only; omega) (by simp only; omega), by simp only; omega, (jSn [0,1,2,3,4,5,6,7,8] (by simp [jVb, jOb, jMb, mapL_cellsR, okL_cellsR, SSp, PM, ndB, rfB]) (by simp only [jSl, jOb, jMb, Nat.reduceAdd, Nat.reduceLT, SSp, PM, ndB, rfB] <;> exact jClo))⟩
theorem pb_on (b p np : Nat) (l : List Act) (c i : Nat) (x : NS) (op a short fill : Int) (H : InvP np l.length (i, x)) (hl : l.length ≤ 40) (hx : l[i]? = some ⟨op, a, short, fill⟩) (hg : goodA ⟨op, a, short, fill⟩) (ho : op = 5) :
    WS Try.prog (frameN Try.f4 3) 1 [.c (k1 (k1 (k2 (k1 (k2 (k2 (k2 (k2 (k2 (k2 (kb Try.f4)))))))))))] (slt (SSp b p l c (i, x))) (mem 0 (PM l x)) (PostP b p np l c (i, x)) := by
  have hi : i < l.length := (List.getElem?_eq_some_iff.1 hx).1
  obtain ⟨hle, H, hrd, hpr, her⟩ := H
  dsimp only at H hrd hpr her
  have hga := wf64 hg.2.1
  dsimp only at hga
  subst ho
  have H' : NOk { x with off := false, cut := -1 } np := nok_of H ⟨rfl, rfl, rfl⟩ H.nx H.wr (by simp only; omega) (by simp only; omega) H.fail1 H.fail2 H.rd1 H.rd2 H.pr1 H.pr2 H.er1 H.er2
  have C := on_walk x
  have I := is_walk { x with off := false, cut := -1 } np a H'
  simp only [isM, ndM, rfB, List.cons_append, List.nil_append] at I C
  simp only [SSp, PM, ndB, rfB, List.cons_append, List.nil_append]
  simp only [Bool.not_false] at I ⊢
  iterate 2 refine jq ?_
  refine jg ?_
  iterate 3 refine jo ?_
  refine jDT ?_
  refine je ?_
  refine WS.pcondT rfl rfl ?_
  refine WS.pskip rfl ?_
  refine jq ?_
  refine WS.pblock rfl ?_
  refine jq ?_
  refine jg ?_
  iterate 2 refine jo ?_
  refine jI ?_
  refine WS.poA (tb := tb) rfl rfl rfl rfl (step_R rfl (evR_loads rfl rfl rfl rfl rfl (by exact (cellsR_part0 (R := rwAct) hx (by exact Nat.le_of_ble_eq_true rfl))) (by exact rfl))) (by simp only [List.drop_zero, List.drop_succ_cons, List.take_succ_cons, List.take_zero, rwBk, rwAct]; exact rfl) ?_
  refine jn ?_
  refine js ?_
  refine je ?_
  iterate 2 refine jq ?_
  refine jg ?_
  refine jP ?_
  refine jo ?_
  refine je ?_
  refine WS.pblock rfl ?_
  refine jq ?_
  refine jg ?_
  refine jB false ?_
  refine jo ?_
  refine je ?_
  refine WS.pcondF rfl rfl ?_
  refine jq ?_
  refine jg ?_
  refine jB false ?_
  refine jo ?_
  refine je ?_
  refine WS.pcondF rfl rfl ?_
  refine jq ?_
  refine jg ?_
  refine jB false ?_
  refine jo ?_
  refine je ?_
  refine WS.pcondF rfl rfl ?_
  refine jq ?_
  refine jg ?_
  refine jB false ?_
  refine jo ?_
  refine je ?_
  refine WS.pcondF rfl rfl ?_
  refine jq ?_
  refine jg ?_
  refine jB false ?_
  refine jo ?_
  refine je ?_
  refine WS.pcondF rfl rfl ?_
  refine jq ?_
  refine jg ?_
  refine jB true ?_
  refine jo ?_
  refine je ?_
  refine WS.pcondT rfl rfl ?_
  refine jq ?_
  refine jg ?_
  refine jo ?_
  refine jc [1,2,3] C (by simp [jOb]) (by simp [jEb, jOb, jMb, mapL_cellsR, okL_cellsR]) ?_; rintro _ _ ⟨rfl, rfl⟩ -; simp only [jPg, jMb, ll, Nat.reduceAdd, Nat.reduceLT, Nat.zero_add, if_true, if_false, Nat.reduceSub, reduceIte, mapL_cellsR, Nat.lt_irrefl, Nat.not_lt_zero, Nat.zero_lt_succ, Nat.lt_add_one]
  refine je ?_
  refine jq ?_
  refine jg ?_
  iterate 2 refine jo ?_
  refine jP ?_
  refine js ?_
  refine je ?_
  refine jg ?_
  iterate 2 refine jo ?_
  refine jP ?_
  refine js ?_
  refine je ?_
  refine jq ?_
  refine jg ?_
  iterate 2 refine jo ?_
  refine jP ?_
  refine jo ?_
  refine jc [1,2,3,4,5,6,7,8] I (by simp [jOb]) (by simp [jEb, jOb, jMb, mapL_cellsR, okL_cellsR]) ?_; rintro _ _ ⟨rfl, rfl⟩ -; simp only [jPg, jMb, ll, Nat.reduceAdd, Nat.reduceLT, Nat.zero_add, if_true, if_false, Nat.reduceSub, reduceIte, mapL_cellsR, Nat.lt_irrefl, Nat.not_lt_zero, Nat.zero_lt_succ, Nat.lt_add_one]
  refine jB false ?_
  refine je ?_
  refine WS.pcondF rfl rfl ?_
  refine WS.pskip rfl ?_
  refine jg ?_
  refine jo ?_
  refine jW ?_
  refine jo ?_
  refine je ?_
  refine WS.nil ?_
  exact ⟨(i + 1, rdS { x with off := false, cut := -1 } np a), inv_next a hi hl H' (by simp only; omega) (by simp only; omega) (by simp only; omega), by simp only; omega, (jSn [0,1,2,3,4,5,6,7,8] (by simp [jVb, jOb, jMb, mapL_cellsR, okL_cellsR, SSp, PM, ndB, rfB]) (by simp only [jSl, jOb, jMb, Nat.reduceAdd, Nat.reduceLT, SSp, PM, ndB, rfB] <;> exact jClo))⟩
end Go.Proofs.Ytmkolibmadbenaa.Am

