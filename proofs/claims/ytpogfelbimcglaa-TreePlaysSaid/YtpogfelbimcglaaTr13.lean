/- Functions of the tree and of the law TreePlays, walked. Conditions: those of each theorem. -/
import Derived.Test.YtpogfelbimcglaaTr12
namespace Go.Proofs.Ytpogfelbimcglaa.Am
open Go.Proofs
set_option maxRecDepth 1000000
set_option maxHeartbeats 4000000
set_option linter.unusedSimpArgs false
set_option linter.unusedVariables false
theorem insert_dup {n : Nat} {s : TS} {a : Int} (b c : Int) (h : TOk n s) (hm : n ≤ 512) (hg : (getL a s.T.ino).isSome = true) :
  FM Try.prog 10 [.p (some (2,0)), .agg [.i .i64 a, .i .i64 b, .i .i64 c]] (tsM s) (fun v M' => v = .i .i64 1 ∧ M' = tsM s) := by
  have hlen := h.len
  have F := find_walk s.ps s.fr s.n s.n a s.T h.rep (by omega)
  rw [find_ino a s.T h.srt] at F
  obtain ⟨x, hx⟩ := Option.isSome_iff_exists.1 hg
  rw [hx] at F
  refine FM.pbodyV (tb := tb) (fn := Try.f10) rfl rfl ?_
  simp only [argS, Nat.reduceAdd, tsM, trM, arM, List.length_cons, List.length_nil, List.cons_append, List.nil_append]
  refine jq ?_
  refine jg ?_
  refine jn ?_
  refine jo ?_
  refine je ?_
  iterate 2 refine jq ?_
  refine jg ?_
  refine jo ?_
  refine jP ?_
  refine jo ?_
  refine jc [0,1,2] F (by simp [jOb, trR, arR]) (by simp [jEb, jOb, jMb, mapL_cellsR, okL_cellsR, trR, arR]) ?_; rintro _ _ ⟨rfl, rfl⟩ -; simp only [jPg, jMb, ll, Nat.reduceAdd, Nat.reduceLT, Nat.zero_add, if_true, if_false, Nat.reduceSub, reduceIte, mapL_cellsR, Nat.lt_irrefl, Nat.not_lt_zero, Nat.zero_lt_succ, Nat.lt_add_one, trR, arR]
  iterate 3 refine jo ?_
  refine jn ?_
  refine js ?_
  refine jo ?_
  refine je ?_
  refine jq ?_
  refine jg ?_
  refine jo ?_
  refine je ?_
  refine WS.pcondT rfl rfl ?_
  refine jq ?_
  refine jg ?_
  refine jo ?_
  refine je ?_
  refine WS.pret rfl ⟨.inr rfl, _, rfl, ?_⟩
  exact ⟨_, rfl, [0,1,2], tsM s, .i .i64 1, ⟨rfl, rfl, (by simp [jVb, jOb, jMb, mapL_cellsR, okL_cellsR, tsM, trM, arM]), rfl⟩, rfl, trivial, rfl, rfl⟩
theorem insert_full {n : Nat} {s : TS} {a : Int} (b c : Int) (h : TOk n s) (hm : n ≤ 512) (hn : s.n = n) (hg : getL a s.T.ino = none) :
  FM Try.prog 10 [.p (some (2,0)), .agg [.i .i64 a, .i .i64 b, .i .i64 c]] (tsM s) (fun v M' => v = .i .i64 5 ∧ M' = tsM s) := by
  have hlen := h.len
  have F := find_walk s.ps s.fr s.n s.n a s.T h.rep (by omega)
  rw [find_ino a s.T h.srt, hg] at F
  have e : s.fr = 0 := by
    obtain ⟨free, hc, _, hl⟩ := h.free
    cases free with
    | nil => exact hc
    | cons k l => simp at hl; omega
  have K := ar_take_no s.ps s.n
  rw [← e] at K
  refine FM.pbodyV (tb := tb) (fn := Try.f10) rfl rfl ?_
  simp only [argS, Nat.reduceAdd, tsM, trM, arM, List.length_cons, List.length_nil, List.cons_append, List.nil_append]
  refine jq ?_
  refine jg ?_
  refine jn ?_
  refine jo ?_
  refine je ?_
  iterate 2 refine jq ?_
  refine jg ?_
  refine jo ?_
  refine jP ?_
  refine jo ?_
  refine jc [0,1,2] F (by simp [jOb, trR, arR, arM]) (by simp [jEb, jOb, jMb, mapL_cellsR, okL_cellsR, trR, arR, arM]) ?_; rintro _ _ ⟨rfl, rfl⟩ -; simp only [jPg, jMb, ll, Nat.reduceAdd, Nat.reduceLT, Nat.zero_add, if_true, if_false, Nat.reduceSub, reduceIte, mapL_cellsR, Nat.lt_irrefl, Nat.not_lt_zero, Nat.zero_lt_succ, Nat.lt_add_one, trR, arR, arM]
  iterate 3 refine jo ?_
  refine jn ?_
  refine js ?_
  refine jo ?_
  refine je ?_
  refine jq ?_
  refine jg ?_
  refine jo ?_
  refine je ?_
  refine WS.pcondF rfl rfl ?_
  refine WS.pskip rfl ?_
  refine jq ?_
  refine jg ?_
  iterate 2 refine jo ?_
  refine jP ?_
  refine jo ?_
  refine jc [0,1] K (by simp [jOb, trR, arR, arM]) (by simp [jEb, jOb, jMb, mapL_cellsR, okL_cellsR, trR, arR, arM]) ?_; rintro _ _ ⟨rfl, rfl⟩ -; simp only [jPg, jMb, ll, Nat.reduceAdd, Nat.reduceLT, Nat.zero_add, if_true, if_false, Nat.reduceSub, reduceIte, mapL_cellsR, Nat.lt_irrefl, Nat.not_lt_zero, Nat.zero_lt_succ, Nat.lt_add_one, trR, arR, arM]
  iterate 5 refine jo ?_
  refine je ?_
  iterate 2 refine jq ?_
  refine jg ?_
  refine jo ?_
  refine jB true ?_
  refine je ?_
  refine WS.pcondT rfl rfl ?_
  refine jq ?_
  refine jg ?_
  iterate 2 refine jo ?_
  refine je ?_
  refine WS.pret rfl ⟨.inr rfl, _, rfl, ?_⟩
  exact ⟨_, rfl, [0,1,2], tsM s, .i .i64 5, ⟨rfl, rfl, (by simp [jVb, jOb, jMb, mapL_cellsR, okL_cellsR, tsM, trM, arM]), rfl⟩, rfl, trivial, rfl, rfl⟩
theorem insert_ok {n : Nat} {s : TS} {a : Int} (b c : Int) (h : TOk n s) (hm : n ≤ 512) (hn : s.n < n) (hg : getL a s.T.ino = none) :
  FM Try.prog 10 [.p (some (2,0)), .agg [.i .i64 a, .i .i64 b, .i .i64 c]] (tsM s) (fun v M' => v = .i .i64 0 ∧ M' = tsM (insS s a b c)) := by
  have hlen := h.len
  have F := find_walk s.ps s.fr s.n s.n a s.T h.rep (by omega)
  rw [find_ino a s.T h.srt, hg] at F
  obtain ⟨k, p, free, e, h0, hp, hc, hnd, hl⟩ := take_free h hn
  obtain ⟨ho, en⟩ := insS_ok (b := b) (c := c) h hn hg
  have ek : s.fr.toNat = k := by rw [e]; rfl
  have hkl := (List.getElem?_eq_some_iff.1 hp).1
  have K := ar_take_yes s.ps k s.n p hp h0 (by omega) (by omega) (by omega)
  have hnd2 := hnd
  simp only [List.nodup_append, List.nodup_cons, List.mem_cons, ne_eq] at hnd2
  obtain ⟨d1, ⟨d2, d3⟩, d4⟩ := hnd2
  have hkT : k ∉ s.T.ids := fun q => d4 k q k (.inl rfl) rfl
  obtain ⟨ps1, hps1⟩ : ∃ q, q = s.ps.set k ⟨true, 0, 0, 0, 0, 0, 0, 0⟩ := ⟨_, rfl⟩
  rw [← hps1] at K
  have hp1 : ps1[k]? = some ⟨true, 0, 0, 0, 0, 0, 0, 0⟩ := by rw [hps1]; exact set_same hp
  have hz1 : Zero ps1 := by rw [hps1]; exact zero_set h0 h.zero
  have hl1 : ps1.length = s.ps.length := by rw [hps1]; simp
  have hT1 : Rep ps1 s.T := by rw [hps1]; exact rep_keep h.rep hkT
  have P1 := tput_walk ps1 p.next ((s.n : Int) + 1) s.T.id s.n k _ .lf .lf 0 a b c hp1 rfl trivial trivial hz1 (by omega) (by simp [Tr.ht]) (by simp [Tr.ht])
  obtain ⟨ps2, hps2⟩ : ∃ q, q = ps1.set k ⟨true, 0, 0, 0, 1, a, b, c⟩ := ⟨_, rfl⟩
  have P2 : FM Try.prog 28 [.p (some (2,0)), .i .u32 k, .agg [.i .u32 0, .i .u32 0, .i .i64 0, .i .i64 a, .i .i64 b, .i .i64 c]] (trM ps1 p.next ((s.n : Int) + 1) s.T.id s.n) (fun v M' => v = .i .u32 k ∧ M' = trM ps2 p.next ((s.n : Int) + 1) s.T.id s.n) := by rw [hps2]; exact P1
  have hp2 : ps2[k]? = some ⟨true, 0, 0, 0, 1, a, b, c⟩ := by rw [hps2]; exact set_same hp1
  have F12 : Fr ps1 ps2 [k] := by rw [hps2]; refine Fr.set hp1 _ ?_; rfl
  have hT2 : Rep ps2 s.T := hT1.fr F12 fun j hj hj2 => by obtain rfl := List.mem_singleton.1 hj2; exact hkT hj
  have hz2 : Zero ps2 := F12.zero hz1 (by simp; omega)
  have hb := ht_le s.T
  have I := insert_walk p.next ((s.n : Int) + 1) s.T.id s.n k a b c s.T ps2 0 hT2 (fun j hj => by have := h.rep.pos j hj; omega) d1 hkT hz2 (by rw [F12.len]; omega) (by simp only [TS.n] at hn; omega) h0 hp2
  have I2 : FM Try.prog 29 [.p (some (2,0)), .i .u32 s.T.id, .i .u32 k, .i .i64 a] (trM ps2 p.next ((s.n : Int) + 1) s.T.id s.n) (fun v M' => v = .i .u32 (insS s a b c).T.id ∧ M' = trM (insS s a b c).ps (insS s a b c).fr ((s.n : Int) + 1) s.T.id s.n) := I.mono (by
    rintro v M' ⟨rfl, ps', rfl, hP⟩
    refine ⟨by simp only [insS, ek], ?_⟩
    have hP2 : Post ps1 ps' (ins k a b c s.T).ids (ins k a b c s.T) := ⟨hP.1, (F12.mono (by intro j hj; obtain rfl := List.mem_singleton.1 hj; exact (ins_mem _ a b c s.T _).2 (.inl rfl))).trans (hP.2.mono (by intro j hj; exact (ins_mem k a b c s.T j).2 (List.mem_cons.1 hj)))⟩
    rw [post_lay hP2 (fun j hj => hj) (ins_nodup k a b c s.T d1 hkT)]
    simp only [insS, ek, hp, hps1, Option.map_some, Option.getD_some])
  have e1 : (s.fr : Int) = (k : Int) := e
  refine FM.pbodyV (tb := tb) (fn := Try.f10) rfl rfl ?_
  simp only [argS, Nat.reduceAdd, tsM, trM, arM, List.length_cons, List.length_nil, List.cons_append, List.nil_append, e1]
  rw [e1] at F
  refine jq ?_
  refine jg ?_
  refine jn ?_
  refine jo ?_
  refine je ?_
  iterate 2 refine jq ?_
  refine jg ?_
  refine jo ?_
  refine jP ?_
  refine jo ?_
  refine jc [0,1,2] F (by simp [jOb, trR, arR, arM, trM]) (by simp [jEb, jOb, jMb, mapL_cellsR, okL_cellsR, trR, arR, arM, trM]) ?_; rintro _ _ ⟨rfl, rfl⟩ -; simp only [jPg, jMb, ll, Nat.reduceAdd, Nat.reduceLT, Nat.zero_add, if_true, if_false, Nat.reduceSub, reduceIte, mapL_cellsR, Nat.lt_irrefl, Nat.not_lt_zero, Nat.zero_lt_succ, Nat.lt_add_one, trR, arR, arM, trM]
  iterate 3 refine jo ?_
  refine jn ?_
  refine js ?_
  refine jo ?_
  refine je ?_
  refine jq ?_
  refine jg ?_
  refine jo ?_
  refine je ?_
  refine WS.pcondF rfl rfl ?_
  refine WS.pskip rfl ?_
  refine jq ?_
  refine jg ?_
  iterate 2 refine jo ?_
  refine jP ?_
  refine jo ?_
  refine jc [0,1] K (by simp [jOb, trR, arR, arM, trM]) (by simp [jEb, jOb, jMb, mapL_cellsR, okL_cellsR, trR, arR, arM, trM]) ?_; rintro _ _ ⟨rfl, rfl⟩ -; simp only [jPg, jMb, ll, Nat.reduceAdd, Nat.reduceLT, Nat.zero_add, if_true, if_false, Nat.reduceSub, reduceIte, mapL_cellsR, Nat.lt_irrefl, Nat.not_lt_zero, Nat.zero_lt_succ, Nat.lt_add_one, trR, arR, arM, trM]
  iterate 5 refine jo ?_
  refine je ?_
  iterate 2 refine jq ?_
  refine jg ?_
  refine jo ?_
  refine jB false ?_
  refine je ?_
  refine WS.pcondF rfl rfl ?_
  refine WS.pskip rfl ?_
  refine jq ?_
  refine jg ?_
  iterate 2 refine jo ?_
  refine WS.poA (tb := tb) rfl rfl rfl rfl rfl (by simp only [List.drop_zero, List.drop_succ_cons, List.take_succ_cons, List.take_zero, rwPl]; exact rfl) ?_
  refine WS.poA (tb := tb) rfl rfl rfl rfl rfl (by simp only [vcells, setL, ll, nl, nz, Nat.reduceAdd, Nat.reduceMul, Int.reduceToNat]; exact rfl) ?_
  refine jc [0,1,2] P2 (by simp [jOb, trR, arR, arM, trM]) (by simp [jEb, jOb, jMb, mapL_cellsR, okL_cellsR, trR, arR, arM, trM]) ?_; rintro _ _ ⟨rfl, rfl⟩ -; simp only [jPg, jMb, ll, Nat.reduceAdd, Nat.reduceLT, Nat.zero_add, if_true, if_false, Nat.reduceSub, reduceIte, mapL_cellsR, Nat.lt_irrefl, Nat.not_lt_zero, Nat.zero_lt_succ, Nat.lt_add_one, trR, arR, arM, trM]
  refine je ?_
  refine jq ?_
  refine WS.pdrawE (tb := tb) [0,1,2] I2 (by exact rfl) (by kernel_rfl) rfl (by kernel_rfl) (by kernel_rfl) (by (try simp only [mapL, mapV, ll]) <;> exact rfl) (by simp [okL, okV, trR, arR, arM, trM]; fail_if_success exfalso) rfl (by simp [embP, okL, okV, mapL, mapV, mem_next, mem_get, mem_ro, mapL_cellsR, okL_cellsR, trR, arR, arM, trM]; fail_if_success exfalso) rfl ?_
  iterate 4 refine jp ?_
  refine jd ?_
  refine jr ?_
  refine jp ?_
  refine jd ?_
  refine jr ?_
  refine WD.ecall (tb := tb) rfl rfl rfl rfl rfl rfl rfl rfl rfl ?_; simp only [jPg, jMb, ll, Nat.reduceAdd, Nat.reduceLT, Nat.zero_add, if_true, if_false, Nat.reduceSub, reduceIte, mapL_cellsR, Nat.lt_irrefl, Nat.not_lt_zero, Nat.zero_lt_succ, Nat.lt_add_one, trR, arR, arM, trM]
  refine jp ?_
  refine jd ?_
  refine WD.e0 (tb := tb) rfl rfl rfl rfl rfl (evE_H (evH_store rfl rfl rfl rfl rfl (Nat.zero_le _) rfl (by simp [vcells]) (Nat.le_of_ble_eq_true rfl))) ?_; rw [upd_mem _ rfl]; simp only [vcells, setL, ll]
  refine WD.fin rfl ?_
  refine jq ?_
  refine jg ?_
  iterate 2 refine jo ?_
  refine jP ?_
  refine jo ?_
  refine jW ?_
  refine jo ?_
  refine jP ?_
  refine js ?_
  refine je ?_
  refine jq ?_
  refine jg ?_
  refine jo ?_
  refine je ?_
  refine WS.pret rfl ⟨.inr rfl, _, rfl, ?_⟩
  have en' : ((insS s a b c).n : Int) = (s.n : Int) + 1 := by omega
  exact ⟨_, rfl, [0,1,2], trM (insS s a b c).ps (insS s a b c).fr ((s.n : Int) + 1) (insS s a b c).T.id ((s.n : Int) + 1), .i .i64 0, ⟨rfl, rfl, (by simp [jVb, jOb, jMb, mapL_cellsR, okL_cellsR, trM, arM]), rfl⟩, rfl, trivial, rfl, by simp only [tsM, en', trM, arM, List.cons_append, List.nil_append]⟩
theorem delete_no {n : Nat} {s : TS} {a : Int} (h : TOk n s) (hm : n ≤ 512) (hg : getL a s.T.ino = none) :
  FM Try.prog 13 [.p (some (2,0)), .i .i64 a] (tsM s) (fun v M' => v = .i .i64 4 ∧ M' = tsM s) := by
  have hlen := h.len
  have F := find_walk s.ps s.fr s.n s.n a s.T h.rep (by omega)
  rw [find_ino a s.T h.srt, hg] at F
  refine FM.pbodyV (tb := tb) (fn := Try.f13) rfl rfl ?_
  simp only [argS, Nat.reduceAdd, tsM, trM, arM, List.length_cons, List.length_nil, List.cons_append, List.nil_append]
  refine jq ?_
  refine jg ?_
  refine jo ?_
  refine je ?_
  iterate 2 refine jq ?_
  refine jg ?_
  iterate 2 refine jo ?_
  refine jc [0,1,2] F (by simp [jOb, trR, arR]) (by simp [jEb, jOb, jMb, mapL_cellsR, okL_cellsR, trR, arR]) ?_; rintro _ _ ⟨rfl, rfl⟩ -; simp only [jPg, jMb, ll, Nat.reduceAdd, Nat.reduceLT, Nat.zero_add, if_true, if_false, Nat.reduceSub, reduceIte, mapL_cellsR, Nat.lt_irrefl, Nat.not_lt_zero, Nat.zero_lt_succ, Nat.lt_add_one, trR, arR]
  iterate 3 refine jo ?_
  refine jn ?_
  refine js ?_
  refine jo ?_
  refine je ?_
  refine jq ?_
  refine jg ?_
  refine jo ?_
  refine jB true ?_
  refine je ?_
  refine WS.pcondT rfl rfl ?_
  refine jq ?_
  refine jg ?_
  refine jo ?_
  refine je ?_
  refine WS.pret rfl ⟨.inr rfl, _, rfl, ?_⟩
  exact ⟨_, rfl, [0,1,2], tsM s, .i .i64 4, ⟨rfl, rfl, (by simp [jVb, jOb, jMb, mapL_cellsR, okL_cellsR, tsM, trM, arM]), rfl⟩, rfl, trivial, rfl, rfl⟩
theorem delete_ok {n : Nat} {s : TS} {a : Int} (h : TOk n s) (hm : n ≤ 512) (hg : (getL a s.T.ino).isSome = true) :
  FM Try.prog 13 [.p (some (2,0)), .i .i64 a] (tsM s) (fun v M' => v = .i .i64 0 ∧ M' = tsM (delS s a)) := by
  have hlen := h.len
  have F := find_walk s.ps s.fr s.n s.n a s.T h.rep (by omega)
  rw [find_ino a s.T h.srt] at F
  obtain ⟨x, hx⟩ := Option.isSome_iff_exists.1 hg
  rw [hx] at F
  obtain ⟨ho, en⟩ := delS_ok h hg
  have hf : fid a s.T ≠ 0 := (fid_get a s.T h.srt fun j hj => (h.rep.pos j hj).1).2 hg
  have hnn := rep_len h.rep h.nd (by omega)
  have hsn : s.n ≤ 600 := hnn
  have R := remove_walk s.fr s.n s.T.id s.n a s.T s.ps hf h.rep h.nd h.zero (by omega) (by omega) (by simp only [TS.n]; omega)
  have R2 : FM Try.prog 31 [.p (some (2,0)), .i .u32 s.T.id, .i .i64 a] (trM s.ps s.fr s.n s.T.id s.n) (fun v M' => v = .i .u32 (delS s a).T.id ∧ M' = trM (delS s a).ps (delS s a).fr ((s.n : Int) - 1) s.T.id s.n) := R.mono (by
    rintro v M' ⟨rfl, ps', rfl, hP⟩
    refine ⟨rfl, ?_⟩
    rw [post_lay hP (fun j hj => hj) ((List.nodup_cons.1 (((rem_perm a s.T hf).nodup_iff).1 h.nd)).2)]
    rfl)
  refine FM.pbodyV (tb := tb) (fn := Try.f13) rfl rfl ?_
  simp only [argS, Nat.reduceAdd, tsM, trM, arM, List.length_cons, List.length_nil, List.cons_append, List.nil_append]
  refine jq ?_
  refine jg ?_
  refine jo ?_
  refine je ?_
  iterate 2 refine jq ?_
  refine jg ?_
  iterate 2 refine jo ?_
  refine jc [0,1,2] F (by simp [jOb, trR, arR, arM, trM]) (by simp [jEb, jOb, jMb, mapL_cellsR, okL_cellsR, trR, arR, arM, trM]) ?_; rintro _ _ ⟨rfl, rfl⟩ -; simp only [jPg, jMb, ll, Nat.reduceAdd, Nat.reduceLT, Nat.zero_add, if_true, if_false, Nat.reduceSub, reduceIte, mapL_cellsR, Nat.lt_irrefl, Nat.not_lt_zero, Nat.zero_lt_succ, Nat.lt_add_one, trR, arR, arM, trM]
  iterate 3 refine jo ?_
  refine jn ?_
  refine js ?_
  refine jo ?_
  refine je ?_
  refine jq ?_
  refine jg ?_
  refine jo ?_
  refine jB false ?_
  refine je ?_
  refine WS.pcondF rfl rfl ?_
  refine WS.pskip rfl ?_
  refine jq ?_
  refine jg ?_
  iterate 4 refine jo ?_
  refine jP ?_
  iterate 2 refine jo ?_
  refine jc [0,1,2] R2 (by simp [jOb, trR, arR, arM, trM]) (by simp [jEb, jOb, jMb, mapL_cellsR, okL_cellsR, trR, arR, arM, trM]) ?_; rintro _ _ ⟨rfl, rfl⟩ -; simp only [jPg, jMb, ll, Nat.reduceAdd, Nat.reduceLT, Nat.zero_add, if_true, if_false, Nat.reduceSub, reduceIte, mapL_cellsR, Nat.lt_irrefl, Nat.not_lt_zero, Nat.zero_lt_succ, Nat.lt_add_one, trR, arR, arM, trM]
  refine jo ?_
  refine jP ?_
  refine js ?_
  refine je ?_
  refine jq ?_
  refine jg ?_
  iterate 2 refine jo ?_
  refine jP ?_
  refine jo ?_
  refine jW ?_
  refine jo ?_
  refine jP ?_
  refine js ?_
  refine je ?_
  refine jq ?_
  refine jg ?_
  refine jo ?_
  refine je ?_
  refine WS.pret rfl ⟨.inr rfl, _, rfl, ?_⟩
  have en' : ((delS s a).n : Int) = (s.n : Int) - 1 := by omega
  exact ⟨_, rfl, [0,1,2], trM (delS s a).ps (delS s a).fr ((s.n : Int) - 1) (delS s a).T.id ((s.n : Int) - 1), .i .i64 0, ⟨rfl, rfl, (by simp [jVb, jOb, jMb, mapL_cellsR, okL_cellsR, trM, arM]), rfl⟩, rfl, trivial, rfl, by simp only [tsM, en', trM, arM, List.cons_append, List.nil_append]⟩
end Go.Proofs.Ytpogfelbimcglaa.Am

