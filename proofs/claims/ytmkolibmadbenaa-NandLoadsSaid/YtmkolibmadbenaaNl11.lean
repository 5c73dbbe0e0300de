/- Functions of the flash, walked. Conditions: those of each theorem. -/
import Derived.Test.YtmkolibmadbenaaAm5
import Derived.Test.YtmkolibmadbenaaNl12
namespace Go.Proofs.Ytmkolibmadbenaa.Am
open Go.Proofs
set_option maxRecDepth 1000000
set_option maxHeartbeats 4000000
set_option linter.unusedSimpArgs false
set_option linter.unusedVariables false
theorem StatE_eq (rd rd2 : Int) (pr pr2 : Int) (er er2 : Int) : eqB tb 100 55 (.agg [.i .i64 rd, .i .i64 pr, .i .i64 er]) (.agg [.i .i64 rd2, .i .i64 pr2, .i .i64 er2]) = decide (rd = rd2 ∧ pr = pr2 ∧ er = er2) := by
  have h : eqB tb 100 55 (.agg [.i .i64 rd, .i .i64 pr, .i .i64 er]) (.agg [.i .i64 rd2, .i .i64 pr2, .i .i64 er2]) = ((rd == rd2) && ((pr == pr2) && ((er == er2) && true))) := by kernel_rfl
  rw [h]; simp [Bool.beq_eq_decide_eq]
theorem str_eq (I : List Int) : ((strOf I).toList == (strOf I).toList) = true := beq_self_eq_true _
theorem str_ne (I : List Int) : ((strOf I).toList != (strOf I).toList) = false := bne_self_eq_false _
theorem str_nn (I : List Int) : (!((strOf I).toList == (strOf I).toList)) = false := by rw [str_eq]; rfl
/-- Load's answer to a flash's own image. -/
theorem load_im {x : NS} {np c : Nat} {q : Bool} (N : NOk x np) (hio : IOk x) (hb : x.bk.length ≤ 64) :
    FM Try.prog 28 [.i .i64 x.bk.length, .i .i64 x.p, .sl (some (0,0)) (imI x).length c q] [some ⟨cellsR (rwI .u8) (imI x), 5, false⟩] (fun v M' => v = .tup [.p (some (3,0)), .i .i64 0] ∧ M' = [some ⟨cellsR (rwI .u8) (imI x), 5, false⟩] ++ ndB 1 (nwS x)) := by
  have L := load_ok x.bk.length x.p np x.bs.length (imI x).length c q (imI x) N.bk1 hb N.p1 N.p2 N.hp N.np2 N.bs (imI_len x) rfl (im_tail N) (fun k hk => im_okBk N hio hk)
  have e := ld_im x
  unfold ldM at L
  have e1 : (imI x).take x.bs.length = (nwS x).bs := by rw [← e]; rfl
  have e2 : bkL (imI x) x.bs.length x.bk.length x.bk.length = (nwS x).bk := by rw [← e]; rfl
  rw [e1, e2] at L
  have e3 : (nwS x).bk.length = x.bk.length := by simp [nwS]
  simp only [ndB, List.cons_append, List.nil_append, e3]
  exact L
theorem tail_n (b p np : Nat) (l : List Act) (u : Act) (c : Nat) (at_ by_ : Int) (x : NS) (N : NOk x np) (hio : IOk x) (hb : x.bk.length = b) (hp : x.p = p) (hb8 : b ≤ 8) (hp8 : p ≤ 8) (hpr : x.pr ≤ 30) (her : x.er ≤ 30) (ho : ¬ u.op = 0 ∧ ¬ u.op = 1) :
    WS Try.prog (frameN Try.f7 6) 1 [.c (k2 (k2 (k2 (k2 (k2 (k2 (kb Try.f7)))))))] (slt [(0, .i .i64 b), (1, .i .i64 p), (3, .i .i64 at_), (4, .i .u8 by_), (11, .p (some (1,0))), (13, .p (some (4,0)))]) (mem 0 (LM l u x)) (fun x t' h' => (x = .n ∨ x = .r) ∧ ∃ v, resV tb t' h' (Try.f7).results.toList = some v ∧ ∃ M', h' = mem 0 M' ∧ v = .b true) := by
  obtain ⟨op, a, short, fill⟩ := u
  dsimp only at ho
  have C1 := on_walk x
  have C2 := failc_walk { x with off := false, cut := -1 } (-1)
  have hm : max (-1 : Int) (-1) = -1 := by omega
  simp only [hm] at C2
  have N1 : NOk { x with off := false, cut := -1, fail := -1 } np := nok_of N ⟨rfl, rfl, rfl⟩ N.nx N.wr (by simp only; omega) (by simp only; omega) (by simp only; omega) (by simp only; omega) N.rd1 N.rd2 N.pr1 N.pr2 N.er1 N.er2
  have io1 : IOk { x with off := false, cut := -1, fail := -1 } := IOk_same (x := x) rfl rfl rfl hio
  generalize hz : ({ x with off := false, cut := -1, fail := -1 } : NS) = z at *
  have S1 : Sim z (nwS z) := nwS_sim (by rw [← hz]) (by rw [← hz]) (by rw [← hz])
  have hzb : z.bk.length = b := by rw [← hz]; exact hb
  have hzp : z.p = p := by rw [← hz]; exact hp
  have hzpr : z.pr ≤ 30 := by rw [← hz]; exact hpr
  have hzer : z.er ≤ 30 := by rw [← hz]; exact her
  have IM := image_walk z (by have := N1.bs; have := N1.np1; omega) (by have := N1.bs; have := N1.np2; omega) N1.bk2 (fun y hy => by have := N1.nx y hy; have := N1.p2; omega)
  have LD := fun c q => load_im (c := c) (q := q) N1 io1 (by omega)
  have NK := nwS_ok N1
  have hKs : (nwS z).off = false ∧ (nwS z).rd = 0 ∧ (nwS z).pr = 0 ∧ (nwS z).er = 0 := ⟨rfl, rfl, rfl, rfl⟩
  generalize nwS z = K at *
  have IK := image_walk K (by have := NK.bs; have := NK.np1; omega) (by have := NK.bs; have := NK.np2; omega) NK.bk2 (fun y hy => by have := NK.nx y hy; have := NK.p2; omega)
  have PK := power_walk K
  have TK := stat_walk K
  have hIl := imI_len z
  have hzW := N1.bs
  have hBt := im_tail N1
  rw [S1.im] at IK
  rw [hzb, hzp] at LD
  rw [hzW] at hIl hBt
  rw [hzb] at hIl
  generalize hI : imI z = I at *
  rw [hKs.1] at PK
  rw [hKs.2.1, hKs.2.2.1, hKs.2.2.2] at TK
  obtain ⟨ho1, ho2⟩ := ho
  simp only [ndM, ndR, List.cons_append, List.nil_append] at C1 C2 IM IK PK TK
  simp only [ndB, List.cons_append, List.nil_append] at LD
  have hs1 := str_eq I
  have hs2 := str_ne I
  have hs3 := str_nn I
  simp only [LM, ndB, boxA, List.cons_append, List.nil_append]
  refine jq ?_
  refine jg ?_
  refine jo ?_
  refine jc [2,3,4] C1 (by simp [jOb]) (by simp [jEb, jOb, jMb, mapL_cellsR, okL_cellsR]) ?_; rintro _ _ ⟨rfl, rfl⟩ -; simp only [jPg, jMb, ll, Nat.reduceAdd, Nat.reduceLT, Nat.zero_add, if_true, if_false, Nat.reduceSub, reduceIte, mapL_cellsR, Nat.lt_irrefl, Nat.not_lt_zero, Nat.zero_lt_succ, Nat.lt_add_one]
  refine je ?_
  refine jq ?_
  refine jg ?_
  refine jo ?_
  refine jc [2,3,4] C2 (by simp [jOb]) (by simp [jEb, jOb, jMb, mapL_cellsR, okL_cellsR]) ?_; rintro _ _ ⟨rfl, rfl⟩ -; simp only [jPg, jMb, ll, Nat.reduceAdd, Nat.reduceLT, Nat.zero_add, if_true, if_false, Nat.reduceSub, reduceIte, mapL_cellsR, Nat.lt_irrefl, Nat.not_lt_zero, Nat.zero_lt_succ, Nat.lt_add_one]
  refine je ?_
  refine jq ?_
  refine jg ?_
  refine jo ?_
  refine jc [2,3,4] IM (by simp [jOb]) (by simp [jEb, jOb, jMb, mapL_cellsR, okL_cellsR]) ?_; rintro _ _ ⟨rfl, rfl⟩ -; simp only [jPg, jMb, ll, Nat.reduceAdd, Nat.reduceLT, Nat.zero_add, if_true, if_false, Nat.reduceSub, reduceIte, mapL_cellsR, Nat.lt_irrefl, Nat.not_lt_zero, Nat.zero_lt_succ, Nat.lt_add_one]
  refine jo ?_
  refine je ?_
  refine jq ?_
  refine jg ?_
  iterate 3 refine jo ?_
  refine jc [5] (LD _ _) (by simp [jOb]) (by simp [jEb, jOb, jMb, mapL_cellsR, okL_cellsR]) ?_; rintro _ _ ⟨rfl, rfl⟩ -; simp only [jPg, jMb, ll, Nat.reduceAdd, Nat.reduceLT, Nat.zero_add, if_true, if_false, Nat.reduceSub, reduceIte, mapL_cellsR, Nat.lt_irrefl, Nat.not_lt_zero, Nat.zero_lt_succ, Nat.lt_add_one]
  iterate 5 refine jo ?_
  refine je ?_
  iterate 2 refine jq ?_
  refine WS.pdrawX (tb := tb) (by kernel_rfl) rfl (by kernel_rfl) ?_; (try refine WZ.keep (l := 1) rfl ?_); (try refine WZ.keep (l := 5) rfl ?_)
  refine WZ.p (tb := tb) rfl rfl rfl rfl rfl ?_
  refine WZ.pB (tb := tb) false rfl rfl rfl rfl rfl rfl ?_
  refine WZ.p (tb := tb) rfl rfl rfl rfl rfl ?_
  refine WZ.p (tb := tb) rfl rfl rfl rfl rfl ?_
  refine WZ.pB (tb := tb) false rfl rfl rfl rfl rfl rfl ?_
  refine WZ.p (tb := tb) rfl rfl rfl rfl rfl ?_
  refine WZ.p (tb := tb) rfl rfl rfl rfl rfl ?_
  refine WZ.p (tb := tb) rfl rfl rfl rfl rfl ?_
  refine WZ.callM (tb := tb) [6,7,8] IK rfl rfl rfl rfl rfl rfl rfl rfl (by (try simp only [mapL, mapV, ll]) <;> exact rfl) (by simp [okL, okV]; fail_if_success exfalso) rfl (by simp [embP, okL, okV, mapL, mapV, mem_next, mem_get, mem_ro, mapL_cellsR, okL_cellsR]; fail_if_success exfalso) rfl rfl rfl (by repeat (first | exact trivial | refine ⟨rfl, ?_⟩)) ?_; simp only [jPg, jMb, ll, Nat.reduceAdd, Nat.reduceLT, Nat.zero_add, if_true, if_false, Nat.reduceSub, reduceIte, mapL_cellsR, Nat.lt_irrefl, Nat.not_lt_zero, Nat.zero_lt_succ, Nat.lt_add_one]; refine WZ.keep (l := 9) rfl ?_
  refine WZ.sC (tb := tb) rfl rfl rfl rfl rfl rfl rfl rfl rfl rfl rfl rfl (fun _ hx__ => (cellsAt_rowG (R := rwI .u8) hx__ (by simp [rwI]))) (by first | exact rfl | (simp only [Bk_len, Act_len, vcells, List.length_cons, List.length_nil, cellsI_len, cellsB_len, List.length_set, List.length_replicate, List.length_append, List.length_map, List.length_take, List.length_drop]; omega) | omega) ?_
  refine WZ.p (tb := tb) rfl rfl rfl rfl rfl ?_
  refine WZ.sC (tb := tb) rfl rfl rfl rfl rfl rfl rfl rfl rfl rfl rfl rfl (fun _ hx__ => (cellsAt_rowG (R := rwI .u8) hx__ (by simp [rwI]))) (by first | exact rfl | (simp only [Bk_len, Act_len, vcells, List.length_cons, List.length_nil, cellsI_len, cellsB_len, List.length_set, List.length_replicate, List.length_append, List.length_map, List.length_take, List.length_drop]; omega) | omega) ?_
  refine WZ.pB (tb := tb) false rfl rfl rfl rfl rfl (by assumption) ?_
  refine WZ.p (tb := tb) rfl rfl rfl rfl rfl ?_
  refine WZ.p (tb := tb) rfl rfl rfl rfl rfl ?_
  refine WZ.p (tb := tb) rfl rfl rfl rfl rfl ?_
  refine WZ.callM (tb := tb) [6,7,8] PK rfl rfl rfl rfl rfl rfl rfl rfl (by (try simp only [mapL, mapV, ll]) <;> exact rfl) (by simp [okL, okV]; fail_if_success exfalso) rfl (by simp [embP, okL, okV, mapL, mapV, mem_next, mem_get, mem_ro, mapL_cellsR, okL_cellsR]; fail_if_success exfalso) rfl rfl rfl (by repeat (first | exact trivial | refine ⟨rfl, ?_⟩)) ?_; simp only [jPg, jMb, ll, Nat.reduceAdd, Nat.reduceLT, Nat.zero_add, if_true, if_false, Nat.reduceSub, reduceIte, mapL_cellsR, Nat.lt_irrefl, Nat.not_lt_zero, Nat.zero_lt_succ, Nat.lt_add_one]
  refine WZ.pB (tb := tb) false rfl rfl rfl rfl rfl rfl ?_
  refine WZ.p (tb := tb) rfl rfl rfl rfl rfl ?_
  refine WZ.p (tb := tb) rfl rfl rfl rfl rfl ?_
  refine WZ.p (tb := tb) rfl rfl rfl rfl rfl ?_
  refine WZ.callM (tb := tb) [6,7,8] TK rfl rfl rfl rfl rfl rfl rfl rfl (by (try simp only [mapL, mapV, ll]) <;> exact rfl) (by simp [okL, okV]; fail_if_success exfalso) rfl (by simp [embP, okL, okV, mapL, mapV, mem_next, mem_get, mem_ro, mapL_cellsR, okL_cellsR]; fail_if_success exfalso) rfl rfl rfl (by repeat (first | exact trivial | refine ⟨rfl, ?_⟩)) ?_; simp only [jPg, jMb, ll, Nat.reduceAdd, Nat.reduceLT, Nat.zero_add, if_true, if_false, Nat.reduceSub, reduceIte, mapL_cellsR, Nat.lt_irrefl, Nat.not_lt_zero, Nat.zero_lt_succ, Nat.lt_add_one]
  refine WZ.pA (tb := tb) rfl rfl rfl rfl rfl (by simp only [vcells, setL, ll, nl, nz, Nat.reduceAdd, Nat.reduceMul, Int.reduceToNat]; exact rfl) ?_
  refine WZ.pB (tb := tb) false rfl rfl rfl rfl (evP_neq rfl rfl rfl (by kernel_rfl) (by kernel_rfl)) (by rw [StatE_eq]; exact nd_f (by omega)) ?_
  refine WZ.p (tb := tb) rfl rfl rfl rfl rfl ?_
  refine WZ.fin rfl (by kernel_rfl) (by repeat (first | exact trivial | refine ⟨rfl, ?_⟩)) ?_
  refine WS.pcondF rfl rfl ?_
  refine WS.pskip rfl ?_
  iterate 2 refine jq ?_
  refine WS.pdrawX (tb := tb) (by kernel_rfl) rfl (by kernel_rfl) ?_; (try refine WZ.keep (l := 1) rfl ?_); (try refine WZ.keep (l := 5) rfl ?_)
  refine WZ.pP (tb := tb) rfl rfl rfl rfl rfl (by simp only [nl, nz, Nat.reduceAdd, Nat.reduceMul, Int.reduceToNat]; exact rfl) ?_
  refine WZ.sL (tb := tb) rfl rfl rfl rfl rfl rfl rfl rfl rfl rfl ?_
  refine WZ.pDF (tb := tb) rfl rfl rfl rfl rfl (by omega) ?_
  refine WZ.p (tb := tb) rfl rfl rfl rfl rfl ?_
  refine WZ.no rfl rfl rfl rfl ?_
  refine WZ.no rfl rfl rfl rfl ?_
  refine WZ.no rfl rfl rfl rfl ?_
  refine WZ.no rfl rfl rfl rfl ?_
  refine WZ.no rfl rfl rfl rfl ?_
  refine WZ.no rfl rfl rfl rfl ?_
  refine WZ.no rfl rfl rfl rfl ?_
  refine WZ.no rfl rfl rfl rfl ?_
  refine WZ.no rfl rfl rfl rfl ?_
  refine WZ.no rfl rfl rfl rfl ?_
  refine WZ.no rfl rfl rfl rfl ?_
  refine WZ.no rfl rfl rfl rfl ?_
  refine WZ.no rfl rfl rfl rfl ?_
  refine WZ.p (tb := tb) rfl rfl rfl rfl rfl ?_
  refine WZ.p (tb := tb) rfl rfl rfl rfl rfl ?_
  refine WZ.pP (tb := tb) rfl rfl rfl rfl rfl (by simp only [nl, nz, Nat.reduceAdd, Nat.reduceMul, Int.reduceToNat]; exact rfl) ?_
  refine WZ.sL (tb := tb) rfl rfl rfl rfl rfl rfl rfl rfl rfl rfl ?_
  refine WZ.pDF (tb := tb) rfl rfl rfl rfl rfl (by omega) ?_
  refine WZ.p (tb := tb) rfl rfl rfl rfl rfl ?_
  refine WZ.no rfl rfl rfl rfl ?_
  refine WZ.no rfl rfl rfl rfl ?_
  refine WZ.no rfl rfl rfl rfl ?_
  refine WZ.no rfl rfl rfl rfl ?_
  refine WZ.no rfl rfl rfl rfl ?_
  refine WZ.no rfl rfl rfl rfl ?_
  refine WZ.no rfl rfl rfl rfl ?_
  refine WZ.no rfl rfl rfl rfl ?_
  refine WZ.no rfl rfl rfl rfl ?_
  refine WZ.p (tb := tb) rfl rfl rfl rfl rfl ?_
  refine WZ.p (tb := tb) rfl rfl rfl rfl rfl ?_
  refine WZ.p (tb := tb) rfl rfl rfl rfl rfl ?_
  refine WZ.p (tb := tb) rfl rfl rfl rfl rfl ?_
  refine WZ.callM (tb := tb) [2,3,4] IM rfl rfl rfl rfl rfl rfl rfl rfl (by (try simp only [mapL, mapV, ll]) <;> exact rfl) (by simp [okL, okV]; fail_if_success exfalso) rfl (by simp [embP, okL, okV, mapL, mapV, mem_next, mem_get, mem_ro, mapL_cellsR, okL_cellsR]; fail_if_success exfalso) rfl rfl rfl (by repeat (first | exact trivial | refine ⟨rfl, ?_⟩)) ?_; simp only [jPg, jMb, ll, Nat.reduceAdd, Nat.reduceLT, Nat.zero_add, if_true, if_false, Nat.reduceSub, reduceIte, mapL_cellsR, Nat.lt_irrefl, Nat.not_lt_zero, Nat.zero_lt_succ, Nat.lt_add_one]; refine WZ.keep (l := 10) rfl ?_
  refine WZ.sC (tb := tb) rfl rfl rfl rfl rfl rfl rfl rfl rfl rfl rfl rfl (fun _ hx__ => (cellsAt_rowG (R := rwI .u8) hx__ (by simp [rwI]))) (by first | exact rfl | (simp only [Bk_len, Act_len, vcells, List.length_cons, List.length_nil, cellsI_len, cellsB_len, List.length_set, List.length_replicate, List.length_append, List.length_map, List.length_take, List.length_drop]; omega) | omega) ?_
  refine WZ.p (tb := tb) rfl rfl rfl rfl rfl ?_
  refine WZ.callM (tb := tb) [6,7,8] IK rfl rfl rfl rfl rfl rfl rfl rfl (by (try simp only [mapL, mapV, ll]) <;> exact rfl) (by simp [okL, okV]; fail_if_success exfalso) rfl (by simp [embP, okL, okV, mapL, mapV, mem_next, mem_get, mem_ro, mapL_cellsR, okL_cellsR]; fail_if_success exfalso) rfl rfl rfl (by repeat (first | exact trivial | refine ⟨rfl, ?_⟩)) ?_; simp only [jPg, jMb, ll, Nat.reduceAdd, Nat.reduceLT, Nat.zero_add, if_true, if_false, Nat.reduceSub, reduceIte, mapL_cellsR, Nat.lt_irrefl, Nat.not_lt_zero, Nat.zero_lt_succ, Nat.lt_add_one]; refine WZ.keep (l := 9) rfl ?_
  refine WZ.r (tb := tb) rfl rfl rfl rfl (⟨rfl, evR_str rfl rfl rfl rfl rfl (cellsAt_rowG (R := rwI .u8) rfl (by simp [rwI])) (by first | exact rfl | (simp only [Bk_len, Act_len, vcells, List.length_cons, List.length_nil, cellsI_len, cellsB_len, List.length_set, List.length_replicate, List.length_append, List.length_map, List.length_take, List.length_drop]; omega) | omega)⟩) ?_
  refine WZ.pB (tb := tb) false rfl rfl rfl rfl rfl (by assumption) ?_
  refine WZ.p (tb := tb) rfl rfl rfl rfl rfl ?_
  refine WZ.fin rfl (by kernel_rfl) (by repeat (first | exact trivial | refine ⟨rfl, ?_⟩)) ?_
  refine WS.pcondF rfl rfl ?_
  refine WS.pskip rfl ?_
  iterate 2 refine jq ?_
  exact WS.seen [0,5] (jSb (by simp [jVb, jOb, jMb, mapL_cellsR, okL_cellsR]) (by simp only [jSl, jOb, jMb, Nat.reduceAdd, Nat.reduceLT] <;> exact jClo)) (end_x at_ by_ b p np (np * 68) I.length l I (by rw [← hzb]; exact N1.bk1) hb8 (by rw [← hzp]; exact N1.p1) hp8 (by rw [← hzb, ← hzp]; exact N1.hp) N1.np2 rfl hIl rfl hBt)
theorem tail_1 (b p np : Nat) (l : List Act) (u : Act) (c : Nat) (at_ by_ : Int) (x : NS) (N : NOk x np) (hio : IOk x) (hb : x.bk.length = b) (hp : x.p = p) (hb8 : b ≤ 8) (hp8 : p ≤ 8) (hpr : x.pr ≤ 30) (her : x.er ≤ 30) (ho : u.op = 1) :
    WS Try.prog (frameN Try.f7 6) 1 [.c (k2 (k2 (k2 (k2 (k2 (k2 (kb Try.f7)))))))] (slt [(0, .i .i64 b), (1, .i .i64 p), (3, .i .i64 at_), (4, .i .u8 by_), (11, .p (some (1,0))), (13, .p (some (4,0)))]) (mem 0 (LM l u x)) (fun x t' h' => (x = .n ∨ x = .r) ∧ ∃ v, resV tb t' h' (Try.f7).results.toList = some v ∧ ∃ M', h' = mem 0 M' ∧ v = .b true) := by
  obtain ⟨op, a, short, fill⟩ := u
  dsimp only at ho
  have C1 := on_walk x
  have C2 := failc_walk { x with off := false, cut := -1 } (-1)
  have hm : max (-1 : Int) (-1) = -1 := by omega
  simp only [hm] at C2
  have N1 : NOk { x with off := false, cut := -1, fail := -1 } np := nok_of N ⟨rfl, rfl, rfl⟩ N.nx N.wr (by simp only; omega) (by simp only; omega) (by simp only; omega) (by simp only; omega) N.rd1 N.rd2 N.pr1 N.pr2 N.er1 N.er2
  have io1 : IOk { x with off := false, cut := -1, fail := -1 } := IOk_same (x := x) rfl rfl rfl hio
  generalize hz : ({ x with off := false, cut := -1, fail := -1 } : NS) = z at *
  have S1 : Sim z (nwS z) := nwS_sim (by rw [← hz]) (by rw [← hz]) (by rw [← hz])
  have hzb : z.bk.length = b := by rw [← hz]; exact hb
  have hzp : z.p = p := by rw [← hz]; exact hp
  have hzpr : z.pr ≤ 30 := by rw [← hz]; exact hpr
  have hzer : z.er ≤ 30 := by rw [← hz]; exact her
  have IM := image_walk z (by have := N1.bs; have := N1.np1; omega) (by have := N1.bs; have := N1.np2; omega) N1.bk2 (fun y hy => by have := N1.nx y hy; have := N1.p2; omega)
  have LD := fun c q => load_im (c := c) (q := q) N1 io1 (by omega)
  have NK := nwS_ok N1
  have hKs : (nwS z).off = false ∧ (nwS z).rd = 0 ∧ (nwS z).pr = 0 ∧ (nwS z).er = 0 := ⟨rfl, rfl, rfl, rfl⟩
  generalize nwS z = K at *
  have IK := image_walk K (by have := NK.bs; have := NK.np1; omega) (by have := NK.bs; have := NK.np2; omega) NK.bk2 (fun y hy => by have := NK.nx y hy; have := NK.p2; omega)
  have PK := power_walk K
  have TK := stat_walk K
  have hIl := imI_len z
  have hzW := N1.bs
  have hBt := im_tail N1
  rw [S1.im] at IK
  rw [hzb, hzp] at LD
  rw [hzW] at hIl hBt
  rw [hzb] at hIl
  generalize hI : imI z = I at *
  rw [hKs.1] at PK
  rw [hKs.2.1, hKs.2.2.1, hKs.2.2.2] at TK
  subst ho
  obtain ⟨EN, EK, e1, e2, e3⟩ := esS_ok N1 a (by omega)
  obtain ⟨ES, EE⟩ := es_sim S1 a
  obtain ⟨EN2, EK2, _, _, _⟩ := esS_ok NK a (by rw [hKs.2.2.2]; omega)
  have E1 := erase_any z np N1 a
  have E2 := erase_any K np NK a
  rw [EE] at E2
  generalize esS z a = y at *
  generalize esS K a = y2 at *
  have JM := image_walk y (by have := EN.bs; have := EN.np1; omega) (by have := EN.bs; have := EN.np2; omega) EN.bk2 (fun y hy => by have := EN.nx y hy; have := EN.p2; omega)
  have JK := image_walk y2 (by have := EN2.bs; have := EN2.np1; omega) (by have := EN2.bs; have := EN2.np2; omega) EN2.bk2 (fun y hy => by have := EN2.nx y hy; have := EN2.p2; omega)
  rw [ES.im] at JK
  generalize imI y = J at *
  have hj1 := str_eq J
  have hj2 := str_ne J
  have hj3 := str_nn J
  simp only [ndM, ndR, List.cons_append, List.nil_append] at E1 E2 JM JK
  simp only [ndM, ndR, List.cons_append, List.nil_append] at C1 C2 IM IK PK TK
  simp only [ndB, List.cons_append, List.nil_append] at LD
  have hs1 := str_eq I
  have hs2 := str_ne I
  have hs3 := str_nn I
  simp only [LM, ndB, boxA, List.cons_append, List.nil_append]
  refine jq ?_
  refine jg ?_
  refine jo ?_
  refine jc [2,3,4] C1 (by simp [jOb]) (by simp [jEb, jOb, jMb, mapL_cellsR, okL_cellsR]) ?_; rintro _ _ ⟨rfl, rfl⟩ -; simp only [jPg, jMb, ll, Nat.reduceAdd, Nat.reduceLT, Nat.zero_add, if_true, if_false, Nat.reduceSub, reduceIte, mapL_cellsR, Nat.lt_irrefl, Nat.not_lt_zero, Nat.zero_lt_succ, Nat.lt_add_one]
  refine je ?_
  refine jq ?_
  refine jg ?_
  refine jo ?_
  refine jc [2,3,4] C2 (by simp [jOb]) (by simp [jEb, jOb, jMb, mapL_cellsR, okL_cellsR]) ?_; rintro _ _ ⟨rfl, rfl⟩ -; simp only [jPg, jMb, ll, Nat.reduceAdd, Nat.reduceLT, Nat.zero_add, if_true, if_false, Nat.reduceSub, reduceIte, mapL_cellsR, Nat.lt_irrefl, Nat.not_lt_zero, Nat.zero_lt_succ, Nat.lt_add_one]
  refine je ?_
  refine jq ?_
  refine jg ?_
  refine jo ?_
  refine jc [2,3,4] IM (by simp [jOb]) (by simp [jEb, jOb, jMb, mapL_cellsR, okL_cellsR]) ?_; rintro _ _ ⟨rfl, rfl⟩ -; simp only [jPg, jMb, ll, Nat.reduceAdd, Nat.reduceLT, Nat.zero_add, if_true, if_false, Nat.reduceSub, reduceIte, mapL_cellsR, Nat.lt_irrefl, Nat.not_lt_zero, Nat.zero_lt_succ, Nat.lt_add_one]
  refine jo ?_
  refine je ?_
  refine jq ?_
  refine jg ?_
  iterate 3 refine jo ?_
  refine jc [5] (LD _ _) (by simp [jOb]) (by simp [jEb, jOb, jMb, mapL_cellsR, okL_cellsR]) ?_; rintro _ _ ⟨rfl, rfl⟩ -; simp only [jPg, jMb, ll, Nat.reduceAdd, Nat.reduceLT, Nat.zero_add, if_true, if_false, Nat.reduceSub, reduceIte, mapL_cellsR, Nat.lt_irrefl, Nat.not_lt_zero, Nat.zero_lt_succ, Nat.lt_add_one]
  iterate 5 refine jo ?_
  refine je ?_
  iterate 2 refine jq ?_
  refine WS.pdrawX (tb := tb) (by kernel_rfl) rfl (by kernel_rfl) ?_; (try refine WZ.keep (l := 1) rfl ?_); (try refine WZ.keep (l := 5) rfl ?_)
  refine WZ.p (tb := tb) rfl rfl rfl rfl rfl ?_
  refine WZ.pB (tb := tb) false rfl rfl rfl rfl rfl rfl ?_
  refine WZ.p (tb := tb) rfl rfl rfl rfl rfl ?_
  refine WZ.p (tb := tb) rfl rfl rfl rfl rfl ?_
  refine WZ.pB (tb := tb) false rfl rfl rfl rfl rfl rfl ?_
  refine WZ.p (tb := tb) rfl rfl rfl rfl rfl ?_
  refine WZ.p (tb := tb) rfl rfl rfl rfl rfl ?_
  refine WZ.p (tb := tb) rfl rfl rfl rfl rfl ?_
  refine WZ.callM (tb := tb) [6,7,8] IK rfl rfl rfl rfl rfl rfl rfl rfl (by (try simp only [mapL, mapV, ll]) <;> exact rfl) (by simp [okL, okV]; fail_if_success exfalso) rfl (by simp [embP, okL, okV, mapL, mapV, mem_next, mem_get, mem_ro, mapL_cellsR, okL_cellsR]; fail_if_success exfalso) rfl rfl rfl (by repeat (first | exact trivial | refine ⟨rfl, ?_⟩)) ?_; simp only [jPg, jMb, ll, Nat.reduceAdd, Nat.reduceLT, Nat.zero_add, if_true, if_false, Nat.reduceSub, reduceIte, mapL_cellsR, Nat.lt_irrefl, Nat.not_lt_zero, Nat.zero_lt_succ, Nat.lt_add_one]; refine WZ.keep (l := 9) rfl ?_
  refine WZ.sC (tb := tb) rfl rfl rfl rfl rfl rfl rfl rfl rfl rfl rfl rfl (fun _ hx__ => (cellsAt_rowG (R := rwI .u8) hx__ (by simp [rwI]))) (by first | exact rfl | (simp only [Bk_len, Act_len, vcells, List.length_cons, List.length_nil, cellsI_len, cellsB_len, List.length_set, List.length_replicate, List.length_append, List.length_map, List.length_take, List.length_drop]; omega) | omega) ?_
  refine WZ.p (tb := tb) rfl rfl rfl rfl rfl ?_
  refine WZ.sC (tb := tb) rfl rfl rfl rfl rfl rfl rfl rfl rfl rfl rfl rfl (fun _ hx__ => (cellsAt_rowG (R := rwI .u8) hx__ (by simp [rwI]))) (by first | exact rfl | (simp only [Bk_len, Act_len, vcells, List.length_cons, List.length_nil, cellsI_len, cellsB_len, List.length_set, List.length_replicate, List.length_append, List.length_map, List.length_take, List.length_drop]; omega) | omega) ?_
  refine WZ.pB (tb := tb) false rfl rfl rfl rfl rfl (by assumption) ?_
  refine WZ.p (tb := tb) rfl rfl rfl rfl rfl ?_
  refine WZ.p (tb := tb) rfl rfl rfl rfl rfl ?_
  refine WZ.p (tb := tb) rfl rfl rfl rfl rfl ?_
  refine WZ.callM (tb := tb) [6,7,8] PK rfl rfl rfl rfl rfl rfl rfl rfl (by (try simp only [mapL, mapV, ll]) <;> exact rfl) (by simp [okL, okV]; fail_if_success exfalso) rfl (by simp [embP, okL, okV, mapL, mapV, mem_next, mem_get, mem_ro, mapL_cellsR, okL_cellsR]; fail_if_success exfalso) rfl rfl rfl (by repeat (first | exact trivial | refine ⟨rfl, ?_⟩)) ?_; simp only [jPg, jMb, ll, Nat.reduceAdd, Nat.reduceLT, Nat.zero_add, if_true, if_false, Nat.reduceSub, reduceIte, mapL_cellsR, Nat.lt_irrefl, Nat.not_lt_zero, Nat.zero_lt_succ, Nat.lt_add_one]
  refine WZ.pB (tb := tb) false rfl rfl rfl rfl rfl rfl ?_
  refine WZ.p (tb := tb) rfl rfl rfl rfl rfl ?_
  refine WZ.p (tb := tb) rfl rfl rfl rfl rfl ?_
  refine WZ.p (tb := tb) rfl rfl rfl rfl rfl ?_
  refine WZ.callM (tb := tb) [6,7,8] TK rfl rfl rfl rfl rfl rfl rfl rfl (by (try simp only [mapL, mapV, ll]) <;> exact rfl) (by simp [okL, okV]; fail_if_success exfalso) rfl (by simp [embP, okL, okV, mapL, mapV, mem_next, mem_get, mem_ro, mapL_cellsR, okL_cellsR]; fail_if_success exfalso) rfl rfl rfl (by repeat (first | exact trivial | refine ⟨rfl, ?_⟩)) ?_; simp only [jPg, jMb, ll, Nat.reduceAdd, Nat.reduceLT, Nat.zero_add, if_true, if_false, Nat.reduceSub, reduceIte, mapL_cellsR, Nat.lt_irrefl, Nat.not_lt_zero, Nat.zero_lt_succ, Nat.lt_add_one]
  refine WZ.pA (tb := tb) rfl rfl rfl rfl rfl (by simp only [vcells, setL, ll, nl, nz, Nat.reduceAdd, Nat.reduceMul, Int.reduceToNat]; exact rfl) ?_
  refine WZ.pB (tb := tb) false rfl rfl rfl rfl (evP_neq rfl rfl rfl (by kernel_rfl) (by kernel_rfl)) (by rw [StatE_eq]; exact nd_f (by omega)) ?_
  refine WZ.p (tb := tb) rfl rfl rfl rfl rfl ?_
  refine WZ.fin rfl (by kernel_rfl) (by repeat (first | exact trivial | refine ⟨rfl, ?_⟩)) ?_
  refine WS.pcondF rfl rfl ?_
  refine WS.pskip rfl ?_
  iterate 2 refine jq ?_
  refine WS.pdrawX (tb := tb) (by kernel_rfl) rfl (by kernel_rfl) ?_; (try refine WZ.keep (l := 1) rfl ?_); (try refine WZ.keep (l := 5) rfl ?_)
  refine WZ.pP (tb := tb) rfl rfl rfl rfl rfl (by simp only [nl, nz, Nat.reduceAdd, Nat.reduceMul, Int.reduceToNat]; exact rfl) ?_
  refine WZ.sL (tb := tb) rfl rfl rfl rfl rfl rfl rfl rfl rfl rfl ?_
  refine WZ.pB (tb := tb) false rfl rfl rfl rfl rfl rfl ?_
  refine WZ.p (tb := tb) rfl rfl rfl rfl rfl ?_
  refine WZ.no rfl rfl rfl rfl ?_
  refine WZ.no rfl rfl rfl rfl ?_
  refine WZ.no rfl rfl rfl rfl ?_
  refine WZ.no rfl rfl rfl rfl ?_
  refine WZ.no rfl rfl rfl rfl ?_
  refine WZ.no rfl rfl rfl rfl ?_
  refine WZ.no rfl rfl rfl rfl ?_
  refine WZ.no rfl rfl rfl rfl ?_
  refine WZ.no rfl rfl rfl rfl ?_
  refine WZ.no rfl rfl rfl rfl ?_
  refine WZ.no rfl rfl rfl rfl ?_
  refine WZ.no rfl rfl rfl rfl ?_
  refine WZ.no rfl rfl rfl rfl ?_
  refine WZ.p (tb := tb) rfl rfl rfl rfl rfl ?_
  refine WZ.p (tb := tb) rfl rfl rfl rfl rfl ?_
  refine WZ.pP (tb := tb) rfl rfl rfl rfl rfl (by simp only [nl, nz, Nat.reduceAdd, Nat.reduceMul, Int.reduceToNat]; exact rfl) ?_
  refine WZ.sL (tb := tb) rfl rfl rfl rfl rfl rfl rfl rfl rfl rfl ?_
  refine WZ.pB (tb := tb) true rfl rfl rfl rfl rfl rfl ?_
  refine WZ.p (tb := tb) rfl rfl rfl rfl rfl ?_
  refine WZ.p (tb := tb) rfl rfl rfl rfl rfl ?_
  refine WZ.pP (tb := tb) rfl rfl rfl rfl rfl (by simp only [nl, nz, Nat.reduceAdd, Nat.reduceMul, Int.reduceToNat]; exact rfl) ?_
  refine WZ.sL (tb := tb) rfl rfl rfl rfl rfl rfl rfl rfl rfl rfl ?_
  refine WZ.callM (tb := tb) [2,3,4] E1 rfl rfl rfl rfl rfl rfl rfl rfl (by (try simp only [mapL, mapV, ll]) <;> exact rfl) (by simp [okL, okV]; fail_if_success exfalso) rfl (by simp [embP, okL, okV, mapL, mapV, mem_next, mem_get, mem_ro, mapL_cellsR, okL_cellsR]; fail_if_success exfalso) rfl rfl rfl (by repeat (first | exact trivial | refine ⟨rfl, ?_⟩)) ?_; simp only [jPg, jMb, ll, Nat.reduceAdd, Nat.reduceLT, Nat.zero_add, if_true, if_false, Nat.reduceSub, reduceIte, mapL_cellsR, Nat.lt_irrefl, Nat.not_lt_zero, Nat.zero_lt_succ, Nat.lt_add_one]
  refine WZ.p (tb := tb) rfl rfl rfl rfl rfl ?_
  refine WZ.pP (tb := tb) rfl rfl rfl rfl rfl (by simp only [nl, nz, Nat.reduceAdd, Nat.reduceMul, Int.reduceToNat]; exact rfl) ?_
  refine WZ.sL (tb := tb) rfl rfl rfl rfl rfl rfl rfl rfl rfl rfl ?_
  refine WZ.callM (tb := tb) [6,7,8] E2 rfl rfl rfl rfl rfl rfl rfl rfl (by (try simp only [mapL, mapV, ll]) <;> exact rfl) (by simp [okL, okV]; fail_if_success exfalso) rfl (by simp [embP, okL, okV, mapL, mapV, mem_next, mem_get, mem_ro, mapL_cellsR, okL_cellsR]; fail_if_success exfalso) rfl rfl rfl (by repeat (first | exact trivial | refine ⟨rfl, ?_⟩)) ?_; simp only [jPg, jMb, ll, Nat.reduceAdd, Nat.reduceLT, Nat.zero_add, if_true, if_false, Nat.reduceSub, reduceIte, mapL_cellsR, Nat.lt_irrefl, Nat.not_lt_zero, Nat.zero_lt_succ, Nat.lt_add_one]
  refine WZ.pNF (tb := tb) rfl rfl rfl rfl rfl (by omega) ?_
  refine WZ.p (tb := tb) rfl rfl rfl rfl rfl ?_
  refine WZ.p (tb := tb) rfl rfl rfl rfl rfl ?_
  refine WZ.p (tb := tb) rfl rfl rfl rfl rfl ?_
  refine WZ.p (tb := tb) rfl rfl rfl rfl rfl ?_
  refine WZ.callM (tb := tb) [2,3,4] JM rfl rfl rfl rfl rfl rfl rfl rfl (by (try simp only [mapL, mapV, ll]) <;> exact rfl) (by simp [okL, okV]; fail_if_success exfalso) rfl (by simp [embP, okL, okV, mapL, mapV, mem_next, mem_get, mem_ro, mapL_cellsR, okL_cellsR]; fail_if_success exfalso) rfl rfl rfl (by repeat (first | exact trivial | refine ⟨rfl, ?_⟩)) ?_; simp only [jPg, jMb, ll, Nat.reduceAdd, Nat.reduceLT, Nat.zero_add, if_true, if_false, Nat.reduceSub, reduceIte, mapL_cellsR, Nat.lt_irrefl, Nat.not_lt_zero, Nat.zero_lt_succ, Nat.lt_add_one]; refine WZ.keep (l := 10) rfl ?_
  refine WZ.sC (tb := tb) rfl rfl rfl rfl rfl rfl rfl rfl rfl rfl rfl rfl (fun _ hx__ => (cellsAt_rowG (R := rwI .u8) hx__ (by simp [rwI]))) (by first | exact rfl | (simp only [Bk_len, Act_len, vcells, List.length_cons, List.length_nil, cellsI_len, cellsB_len, List.length_set, List.length_replicate, List.length_append, List.length_map, List.length_take, List.length_drop]; omega) | omega) ?_
  refine WZ.p (tb := tb) rfl rfl rfl rfl rfl ?_
  refine WZ.callM (tb := tb) [6,7,8] JK rfl rfl rfl rfl rfl rfl rfl rfl (by (try simp only [mapL, mapV, ll]) <;> exact rfl) (by simp [okL, okV]; fail_if_success exfalso) rfl (by simp [embP, okL, okV, mapL, mapV, mem_next, mem_get, mem_ro, mapL_cellsR, okL_cellsR]; fail_if_success exfalso) rfl rfl rfl (by repeat (first | exact trivial | refine ⟨rfl, ?_⟩)) ?_; simp only [jPg, jMb, ll, Nat.reduceAdd, Nat.reduceLT, Nat.zero_add, if_true, if_false, Nat.reduceSub, reduceIte, mapL_cellsR, Nat.lt_irrefl, Nat.not_lt_zero, Nat.zero_lt_succ, Nat.lt_add_one]
  refine WZ.r (tb := tb) rfl rfl rfl rfl (⟨rfl, evR_str rfl rfl rfl rfl rfl (cellsAt_rowG (R := rwI .u8) rfl (by simp [rwI])) (by first | exact rfl | (simp only [Bk_len, Act_len, vcells, List.length_cons, List.length_nil, cellsI_len, cellsB_len, List.length_set, List.length_replicate, List.length_append, List.length_map, List.length_take, List.length_drop]; omega) | omega)⟩) ?_
  refine WZ.pB (tb := tb) false rfl rfl rfl rfl rfl (by assumption) ?_
  refine WZ.p (tb := tb) rfl rfl rfl rfl rfl ?_
  refine WZ.fin rfl (by kernel_rfl) (by repeat (first | exact trivial | refine ⟨rfl, ?_⟩)) ?_
  refine WS.pcondF rfl rfl ?_
  refine WS.pskip rfl ?_
  iterate 2 refine jq ?_
  exact WS.seen [0,5] (jSb (by simp [jVb, jOb, jMb, mapL_cellsR, okL_cellsR]) (by simp only [jSl, jOb, jMb, Nat.reduceAdd, Nat.reduceLT] <;> exact jClo)) (end_x at_ by_ b p np (np * 68) I.length l I (by rw [← hzb]; exact N1.bk1) hb8 (by rw [← hzp]; exact N1.p1) hp8 (by rw [← hzb, ← hzp]; exact N1.hp) N1.np2 rfl hIl rfl hBt)
theorem tail_0 (b p np : Nat) (l : List Act) (u : Act) (c : Nat) (at_ by_ : Int) (x : NS) (N : NOk x np) (hio : IOk x) (hb : x.bk.length = b) (hp : x.p = p) (hb8 : b ≤ 8) (hp8 : p ≤ 8) (hpr : x.pr ≤ 30) (her : x.er ≤ 30) (ho : u.op = 0) :
    WS Try.prog (frameN Try.f7 6) 1 [.c (k2 (k2 (k2 (k2 (k2 (k2 (kb Try.f7)))))))] (slt [(0, .i .i64 b), (1, .i .i64 p), (3, .i .i64 at_), (4, .i .u8 by_), (11, .p (some (1,0))), (13, .p (some (4,0)))]) (mem 0 (LM l u x)) (fun x t' h' => (x = .n ∨ x = .r) ∧ ∃ v, resV tb t' h' (Try.f7).results.toList = some v ∧ ∃ M', h' = mem 0 M' ∧ v = .b true) := by
  obtain ⟨op, a, short, fill⟩ := u
  dsimp only at ho
  have C1 := on_walk x
  have C2 := failc_walk { x with off := false, cut := -1 } (-1)
  have hm : max (-1 : Int) (-1) = -1 := by omega
  simp only [hm] at C2
  have N1 : NOk { x with off := false, cut := -1, fail := -1 } np := nok_of N ⟨rfl, rfl, rfl⟩ N.nx N.wr (by simp only; omega) (by simp only; omega) (by simp only; omega) (by simp only; omega) N.rd1 N.rd2 N.pr1 N.pr2 N.er1 N.er2
  have io1 : IOk { x with off := false, cut := -1, fail := -1 } := IOk_same (x := x) rfl rfl rfl hio
  generalize hz : ({ x with off := false, cut := -1, fail := -1 } : NS) = z at *
  have S1 : Sim z (nwS z) := nwS_sim (by rw [← hz]) (by rw [← hz]) (by rw [← hz])
  have hzb : z.bk.length = b := by rw [← hz]; exact hb
  have hzp : z.p = p := by rw [← hz]; exact hp
  have hzpr : z.pr ≤ 30 := by rw [← hz]; exact hpr
  have hzer : z.er ≤ 30 := by rw [← hz]; exact her
  have IM := image_walk z (by have := N1.bs; have := N1.np1; omega) (by have := N1.bs; have := N1.np2; omega) N1.bk2 (fun y hy => by have := N1.nx y hy; have := N1.p2; omega)
  have LD := fun c q => load_im (c := c) (q := q) N1 io1 (by omega)
  have NK := nwS_ok N1
  have hKs : (nwS z).off = false ∧ (nwS z).rd = 0 ∧ (nwS z).pr = 0 ∧ (nwS z).er = 0 := ⟨rfl, rfl, rfl, rfl⟩
  generalize nwS z = K at *
  have IK := image_walk K (by have := NK.bs; have := NK.np1; omega) (by have := NK.bs; have := NK.np2; omega) NK.bk2 (fun y hy => by have := NK.nx y hy; have := NK.p2; omega)
  have PK := power_walk K
  have TK := stat_walk K
  have hIl := imI_len z
  have hzW := N1.bs
  have hBt := im_tail N1
  rw [S1.im] at IK
  rw [hzb, hzp] at LD
  rw [hzW] at hIl hBt
  rw [hzb] at hIl
  generalize hI : imI z = I at *
  rw [hKs.1] at PK
  rw [hKs.2.1, hKs.2.2.1, hKs.2.2.2] at TK
  subst ho
  obtain ⟨n, hn⟩ : ∃ n, n = dlen short := ⟨_, rfl⟩
  have hn1 : 1 ≤ n ∧ n ≤ 200 := by rw [hn]; unfold dlen; split <;> omega
  have DW := data_walk 0 a short fill
  rw [← hn] at DW
  have hDl := dtL_len fill n
  generalize dtL fill n = D at *
  obtain ⟨EN, EK, e1, e2, e3⟩ := pgS_ok N1 a D (by omega)
  obtain ⟨ES, EE⟩ := pg_sim S1 np a D
  obtain ⟨EN2, EK2, _, _, _⟩ := pgS_ok NK a D (by rw [hKs.2.2.1]; omega)
  have P1 := program_any z np N1 a n n false D [] (.inl rfl) hDl (by omega) (by omega)
  have P2 := program_any K np NK a n n false D [] (.inl rfl) hDl (by omega) (by omega)
  rw [hDl] at EE
  rw [EE] at P2
  rw [List.append_nil] at P1 P2
  generalize pgS z np a D = y at *
  generalize pgS K np a D = y2 at *
  have JM := image_walk y (by have := EN.bs; have := EN.np1; omega) (by have := EN.bs; have := EN.np2; omega) EN.bk2 (fun y hy => by have := EN.nx y hy; have := EN.p2; omega)
  have JK := image_walk y2 (by have := EN2.bs; have := EN2.np1; omega) (by have := EN2.bs; have := EN2.np2; omega) EN2.bk2 (fun y hy => by have := EN2.nx y hy; have := EN2.p2; omega)
  rw [ES.im] at JK
  generalize imI y = J at *
  have hj1 := str_eq J
  have hj2 := str_ne J
  have hj3 := str_nn J
  simp only [ndM, ndR, dtB, List.cons_append, List.nil_append] at P1 P2 JM JK
  simp only [ndM, ndR, List.cons_append, List.nil_append] at C1 C2 IM IK PK TK
  simp only [ndB, List.cons_append, List.nil_append] at LD
  have hs1 := str_eq I
  have hs2 := str_ne I
  have hs3 := str_nn I
  simp only [LM, ndB, boxA, List.cons_append, List.nil_append]
  refine jq ?_
  refine jg ?_
  refine jo ?_
  refine jc [2,3,4] C1 (by simp [jOb]) (by simp [jEb, jOb, jMb, mapL_cellsR, okL_cellsR]) ?_; rintro _ _ ⟨rfl, rfl⟩ -; simp only [jPg, jMb, ll, Nat.reduceAdd, Nat.reduceLT, Nat.zero_add, if_true, if_false, Nat.reduceSub, reduceIte, mapL_cellsR, Nat.lt_irrefl, Nat.not_lt_zero, Nat.zero_lt_succ, Nat.lt_add_one]
  refine je ?_
  refine jq ?_
  refine jg ?_
  refine jo ?_
  refine jc [2,3,4] C2 (by simp [jOb]) (by simp [jEb, jOb, jMb, mapL_cellsR, okL_cellsR]) ?_; rintro _ _ ⟨rfl, rfl⟩ -; simp only [jPg, jMb, ll, Nat.reduceAdd, Nat.reduceLT, Nat.zero_add, if_true, if_false, Nat.reduceSub, reduceIte, mapL_cellsR, Nat.lt_irrefl, Nat.not_lt_zero, Nat.zero_lt_succ, Nat.lt_add_one]
  refine je ?_
  refine jq ?_
  refine jg ?_
  refine jo ?_
  refine jc [2,3,4] IM (by simp [jOb]) (by simp [jEb, jOb, jMb, mapL_cellsR, okL_cellsR]) ?_; rintro _ _ ⟨rfl, rfl⟩ -; simp only [jPg, jMb, ll, Nat.reduceAdd, Nat.reduceLT, Nat.zero_add, if_true, if_false, Nat.reduceSub, reduceIte, mapL_cellsR, Nat.lt_irrefl, Nat.not_lt_zero, Nat.zero_lt_succ, Nat.lt_add_one]
  refine jo ?_
  refine je ?_
  refine jq ?_
  refine jg ?_
  iterate 3 refine jo ?_
  refine jc [5] (LD _ _) (by simp [jOb]) (by simp [jEb, jOb, jMb, mapL_cellsR, okL_cellsR]) ?_; rintro _ _ ⟨rfl, rfl⟩ -; simp only [jPg, jMb, ll, Nat.reduceAdd, Nat.reduceLT, Nat.zero_add, if_true, if_false, Nat.reduceSub, reduceIte, mapL_cellsR, Nat.lt_irrefl, Nat.not_lt_zero, Nat.zero_lt_succ, Nat.lt_add_one]
  iterate 5 refine jo ?_
  refine je ?_
  iterate 2 refine jq ?_
  refine WS.pdrawX (tb := tb) (by kernel_rfl) rfl (by kernel_rfl) ?_; (try refine WZ.keep (l := 1) rfl ?_); (try refine WZ.keep (l := 5) rfl ?_)
  refine WZ.p (tb := tb) rfl rfl rfl rfl rfl ?_
  refine WZ.pB (tb := tb) false rfl rfl rfl rfl rfl rfl ?_
  refine WZ.p (tb := tb) rfl rfl rfl rfl rfl ?_
  refine WZ.p (tb := tb) rfl rfl rfl rfl rfl ?_
  refine WZ.pB (tb := tb) false rfl rfl rfl rfl rfl rfl ?_
  refine WZ.p (tb := tb) rfl rfl rfl rfl rfl ?_
  refine WZ.p (tb := tb) rfl rfl rfl rfl rfl ?_
  refine WZ.p (tb := tb) rfl rfl rfl rfl rfl ?_
  refine WZ.callM (tb := tb) [6,7,8] IK rfl rfl rfl rfl rfl rfl rfl rfl (by (try simp only [mapL, mapV, ll]) <;> exact rfl) (by simp [okL, okV]; fail_if_success exfalso) rfl (by simp [embP, okL, okV, mapL, mapV, mem_next, mem_get, mem_ro, mapL_cellsR, okL_cellsR]; fail_if_success exfalso) rfl rfl rfl (by repeat (first | exact trivial | refine ⟨rfl, ?_⟩)) ?_; simp only [jPg, jMb, ll, Nat.reduceAdd, Nat.reduceLT, Nat.zero_add, if_true, if_false, Nat.reduceSub, reduceIte, mapL_cellsR, Nat.lt_irrefl, Nat.not_lt_zero, Nat.zero_lt_succ, Nat.lt_add_one]; refine WZ.keep (l := 9) rfl ?_
  refine WZ.sC (tb := tb) rfl rfl rfl rfl rfl rfl rfl rfl rfl rfl rfl rfl (fun _ hx__ => (cellsAt_rowG (R := rwI .u8) hx__ (by simp [rwI]))) (by first | exact rfl | (simp only [Bk_len, Act_len, vcells, List.length_cons, List.length_nil, cellsI_len, cellsB_len, List.length_set, List.length_replicate, List.length_append, List.length_map, List.length_take, List.length_drop]; omega) | omega) ?_
  refine WZ.p (tb := tb) rfl rfl rfl rfl rfl ?_
  refine WZ.sC (tb := tb) rfl rfl rfl rfl rfl rfl rfl rfl rfl rfl rfl rfl (fun _ hx__ => (cellsAt_rowG (R := rwI .u8) hx__ (by simp [rwI]))) (by first | exact rfl | (simp only [Bk_len, Act_len, vcells, List.length_cons, List.length_nil, cellsI_len, cellsB_len, List.length_set, List.length_replicate, List.length_append, List.length_map, List.length_take, List.length_drop]; omega) | omega) ?_
  refine WZ.pB (tb := tb) false rfl rfl rfl rfl rfl (by assumption) ?_
  refine WZ.p (tb := tb) rfl rfl rfl rfl rfl ?_
  refine WZ.p (tb := tb) rfl rfl rfl rfl rfl ?_
  refine WZ.p (tb := tb) rfl rfl rfl rfl rfl ?_
  refine WZ.callM (tb := tb) [6,7,8] PK rfl rfl rfl rfl rfl rfl rfl rfl (by (try simp only [mapL, mapV, ll]) <;> exact rfl) (by simp [okL, okV]; fail_if_success exfalso) rfl (by simp [embP, okL, okV, mapL, mapV, mem_next, mem_get, mem_ro, mapL_cellsR, okL_cellsR]; fail_if_success exfalso) rfl rfl rfl (by repeat (first | exact trivial | refine ⟨rfl, ?_⟩)) ?_; simp only [jPg, jMb, ll, Nat.reduceAdd, Nat.reduceLT, Nat.zero_add, if_true, if_false, Nat.reduceSub, reduceIte, mapL_cellsR, Nat.lt_irrefl, Nat.not_lt_zero, Nat.zero_lt_succ, Nat.lt_add_one]
  refine WZ.pB (tb := tb) false rfl rfl rfl rfl rfl rfl ?_
  refine WZ.p (tb := tb) rfl rfl rfl rfl rfl ?_
  refine WZ.p (tb := tb) rfl rfl rfl rfl rfl ?_
  refine WZ.p (tb := tb) rfl rfl rfl rfl rfl ?_
  refine WZ.callM (tb := tb) [6,7,8] TK rfl rfl rfl rfl rfl rfl rfl rfl (by (try simp only [mapL, mapV, ll]) <;> exact rfl) (by simp [okL, okV]; fail_if_success exfalso) rfl (by simp [embP, okL, okV, mapL, mapV, mem_next, mem_get, mem_ro, mapL_cellsR, okL_cellsR]; fail_if_success exfalso) rfl rfl rfl (by repeat (first | exact trivial | refine ⟨rfl, ?_⟩)) ?_; simp only [jPg, jMb, ll, Nat.reduceAdd, Nat.reduceLT, Nat.zero_add, if_true, if_false, Nat.reduceSub, reduceIte, mapL_cellsR, Nat.lt_irrefl, Nat.not_lt_zero, Nat.zero_lt_succ, Nat.lt_add_one]
  refine WZ.pA (tb := tb) rfl rfl rfl rfl rfl (by simp only [vcells, setL, ll, nl, nz, Nat.reduceAdd, Nat.reduceMul, Int.reduceToNat]; exact rfl) ?_
  refine WZ.pB (tb := tb) false rfl rfl rfl rfl (evP_neq rfl rfl rfl (by kernel_rfl) (by kernel_rfl)) (by rw [StatE_eq]; exact nd_f (by omega)) ?_
  refine WZ.p (tb := tb) rfl rfl rfl rfl rfl ?_
  refine WZ.fin rfl (by kernel_rfl) (by repeat (first | exact trivial | refine ⟨rfl, ?_⟩)) ?_
  refine WS.pcondF rfl rfl ?_
  refine WS.pskip rfl ?_
  iterate 2 refine jq ?_
  refine WS.pdrawX (tb := tb) (by kernel_rfl) rfl (by kernel_rfl) ?_; (try refine WZ.keep (l := 1) rfl ?_); (try refine WZ.keep (l := 5) rfl ?_)
  refine WZ.pP (tb := tb) rfl rfl rfl rfl rfl (by simp only [nl, nz, Nat.reduceAdd, Nat.reduceMul, Int.reduceToNat]; exact rfl) ?_
  refine WZ.sL (tb := tb) rfl rfl rfl rfl rfl rfl rfl rfl rfl rfl ?_
  refine WZ.pB (tb := tb) true rfl rfl rfl rfl rfl rfl ?_
  refine WZ.p (tb := tb) rfl rfl rfl rfl rfl ?_
  refine WZ.p (tb := tb) rfl rfl rfl rfl rfl ?_
  refine WZ.pP (tb := tb) rfl rfl rfl rfl rfl (by simp only [nl, nz, Nat.reduceAdd, Nat.reduceMul, Int.reduceToNat]; exact rfl) ?_
  refine WZ.sL (tb := tb) rfl rfl rfl rfl rfl rfl rfl rfl rfl rfl ?_
  refine WZ.sLA (tb := tb) rfl rfl rfl rfl rfl rfl rfl rfl rfl rfl rfl rfl (by simp only [List.drop_zero, List.drop_succ_cons, List.take_succ_cons, List.take_zero, rwBk, rwAct]; exact rfl) ?_
  refine WZ.callM (tb := tb) [] DW rfl rfl rfl rfl rfl rfl rfl rfl (by (try simp only [mapL, mapV, ll]) <;> exact rfl) (by simp [okL, okV]; fail_if_success exfalso) rfl (by simp [embP, okL, okV, mapL, mapV, mem_next, mem_get, mem_ro, mapL_cellsR, okL_cellsR]; fail_if_success exfalso) rfl rfl rfl (by repeat (first | exact trivial | refine ⟨rfl, ?_⟩)) ?_; simp only [jPg, jMb, ll, Nat.reduceAdd, Nat.reduceLT, Nat.zero_add, if_true, if_false, Nat.reduceSub, reduceIte, mapL_cellsR, Nat.lt_irrefl, Nat.not_lt_zero, Nat.zero_lt_succ, Nat.lt_add_one]
  refine WZ.callM (tb := tb) [2,3,4,10] P1 rfl rfl rfl rfl rfl rfl rfl rfl (by (try simp only [mapL, mapV, ll]) <;> exact rfl) (by simp [okL, okV]; fail_if_success exfalso) rfl (by simp [embP, okL, okV, mapL, mapV, mem_next, mem_get, mem_ro, mapL_cellsR, okL_cellsR]; fail_if_success exfalso) rfl rfl rfl (by repeat (first | exact trivial | refine ⟨rfl, ?_⟩)) ?_; simp only [jPg, jMb, ll, Nat.reduceAdd, Nat.reduceLT, Nat.zero_add, if_true, if_false, Nat.reduceSub, reduceIte, mapL_cellsR, Nat.lt_irrefl, Nat.not_lt_zero, Nat.zero_lt_succ, Nat.lt_add_one]
  refine WZ.p (tb := tb) rfl rfl rfl rfl rfl ?_
  refine WZ.pP (tb := tb) rfl rfl rfl rfl rfl (by simp only [nl, nz, Nat.reduceAdd, Nat.reduceMul, Int.reduceToNat]; exact rfl) ?_
  refine WZ.sL (tb := tb) rfl rfl rfl rfl rfl rfl rfl rfl rfl rfl ?_
  refine WZ.sLA (tb := tb) rfl rfl rfl rfl rfl rfl rfl rfl rfl rfl rfl rfl (by simp only [List.drop_zero, List.drop_succ_cons, List.take_succ_cons, List.take_zero, rwBk, rwAct]; exact rfl) ?_
  refine WZ.callM (tb := tb) [] DW rfl rfl rfl rfl rfl rfl rfl rfl (by (try simp only [mapL, mapV, ll]) <;> exact rfl) (by simp [okL, okV]; fail_if_success exfalso) rfl (by simp [embP, okL, okV, mapL, mapV, mem_next, mem_get, mem_ro, mapL_cellsR, okL_cellsR]; fail_if_success exfalso) rfl rfl rfl (by repeat (first | exact trivial | refine ⟨rfl, ?_⟩)) ?_; simp only [jPg, jMb, ll, Nat.reduceAdd, Nat.reduceLT, Nat.zero_add, if_true, if_false, Nat.reduceSub, reduceIte, mapL_cellsR, Nat.lt_irrefl, Nat.not_lt_zero, Nat.zero_lt_succ, Nat.lt_add_one]
  refine WZ.callM (tb := tb) [6,7,8,11] P2 rfl rfl rfl rfl rfl rfl rfl rfl (by (try simp only [mapL, mapV, ll]) <;> exact rfl) (by simp [okL, okV]; fail_if_success exfalso) rfl (by simp [embP, okL, okV, mapL, mapV, mem_next, mem_get, mem_ro, mapL_cellsR, okL_cellsR]; fail_if_success exfalso) rfl rfl rfl (by repeat (first | exact trivial | refine ⟨rfl, ?_⟩)) ?_; simp only [jPg, jMb, ll, Nat.reduceAdd, Nat.reduceLT, Nat.zero_add, if_true, if_false, Nat.reduceSub, reduceIte, mapL_cellsR, Nat.lt_irrefl, Nat.not_lt_zero, Nat.zero_lt_succ, Nat.lt_add_one]
  refine WZ.pNF (tb := tb) rfl rfl rfl rfl rfl (by omega) ?_
  refine WZ.p (tb := tb) rfl rfl rfl rfl rfl ?_
  refine WZ.p (tb := tb) rfl rfl rfl rfl rfl ?_
  refine WZ.pP (tb := tb) rfl rfl rfl rfl rfl (by simp only [nl, nz, Nat.reduceAdd, Nat.reduceMul, Int.reduceToNat]; exact rfl) ?_
  refine WZ.sL (tb := tb) rfl rfl rfl rfl rfl rfl rfl rfl rfl rfl ?_
  refine WZ.pB (tb := tb) false rfl rfl rfl rfl rfl rfl ?_
  refine WZ.p (tb := tb) rfl rfl rfl rfl rfl ?_
  refine WZ.no rfl rfl rfl rfl ?_
  refine WZ.no rfl rfl rfl rfl ?_
  refine WZ.no rfl rfl rfl rfl ?_
  refine WZ.no rfl rfl rfl rfl ?_
  refine WZ.no rfl rfl rfl rfl ?_
  refine WZ.no rfl rfl rfl rfl ?_
  refine WZ.no rfl rfl rfl rfl ?_
  refine WZ.no rfl rfl rfl rfl ?_
  refine WZ.no rfl rfl rfl rfl ?_
  refine WZ.p (tb := tb) rfl rfl rfl rfl rfl ?_
  refine WZ.p (tb := tb) rfl rfl rfl rfl rfl ?_
  refine WZ.p (tb := tb) rfl rfl rfl rfl rfl ?_
  refine WZ.p (tb := tb) rfl rfl rfl rfl rfl ?_
  refine WZ.callM (tb := tb) [2,3,4] JM rfl rfl rfl rfl rfl rfl rfl rfl (by (try simp only [mapL, mapV, ll]) <;> exact rfl) (by simp [okL, okV]; fail_if_success exfalso) rfl (by simp [embP, okL, okV, mapL, mapV, mem_next, mem_get, mem_ro, mapL_cellsR, okL_cellsR]; fail_if_success exfalso) rfl rfl rfl (by repeat (first | exact trivial | refine ⟨rfl, ?_⟩)) ?_; simp only [jPg, jMb, ll, Nat.reduceAdd, Nat.reduceLT, Nat.zero_add, if_true, if_false, Nat.reduceSub, reduceIte, mapL_cellsR, Nat.lt_irrefl, Nat.not_lt_zero, Nat.zero_lt_succ, Nat.lt_add_one]; refine WZ.keep (l := 12) rfl ?_
  refine WZ.sC (tb := tb) rfl rfl rfl rfl rfl rfl rfl rfl rfl rfl rfl rfl (fun _ hx__ => (cellsAt_rowG (R := rwI .u8) hx__ (by simp [rwI]))) (by first | exact rfl | (simp only [Bk_len, Act_len, vcells, List.length_cons, List.length_nil, cellsI_len, cellsB_len, List.length_set, List.length_replicate, List.length_append, List.length_map, List.length_take, List.length_drop]; omega) | omega) ?_
  refine WZ.p (tb := tb) rfl rfl rfl rfl rfl ?_
  refine WZ.callM (tb := tb) [6,7,8] JK rfl rfl rfl rfl rfl rfl rfl rfl (by (try simp only [mapL, mapV, ll]) <;> exact rfl) (by simp [okL, okV]; fail_if_success exfalso) rfl (by simp [embP, okL, okV, mapL, mapV, mem_next, mem_get, mem_ro, mapL_cellsR, okL_cellsR]; fail_if_success exfalso) rfl rfl rfl (by repeat (first | exact trivial | refine ⟨rfl, ?_⟩)) ?_; simp only [jPg, jMb, ll, Nat.reduceAdd, Nat.reduceLT, Nat.zero_add, if_true, if_false, Nat.reduceSub, reduceIte, mapL_cellsR, Nat.lt_irrefl, Nat.not_lt_zero, Nat.zero_lt_succ, Nat.lt_add_one]
  refine WZ.r (tb := tb) rfl rfl rfl rfl (⟨rfl, evR_str rfl rfl rfl rfl rfl (cellsAt_rowG (R := rwI .u8) rfl (by simp [rwI])) (by first | exact rfl | (simp only [Bk_len, Act_len, vcells, List.length_cons, List.length_nil, cellsI_len, cellsB_len, List.length_set, List.length_replicate, List.length_append, List.length_map, List.length_take, List.length_drop]; omega) | omega)⟩) ?_
  refine WZ.pB (tb := tb) false rfl rfl rfl rfl rfl (by assumption) ?_
  refine WZ.p (tb := tb) rfl rfl rfl rfl rfl ?_
  refine WZ.fin rfl (by kernel_rfl) (by repeat (first | exact trivial | refine ⟨rfl, ?_⟩)) ?_
  refine WS.pcondF rfl rfl ?_
  refine WS.pskip rfl ?_
  iterate 2 refine jq ?_
  exact WS.seen [0,5] (jSb (by simp [jVb, jOb, jMb, mapL_cellsR, okL_cellsR]) (by simp only [jSl, jOb, jMb, Nat.reduceAdd, Nat.reduceLT] <;> exact jClo)) (end_x at_ by_ b p np (np * 68) I.length l I (by rw [← hzb]; exact N1.bk1) hb8 (by rw [← hzp]; exact N1.p1) hp8 (by rw [← hzb, ← hzp]; exact N1.hp) N1.np2 rfl hIl rfl hBt)
end Go.Proofs.Ytmkolibmadbenaa.Am

