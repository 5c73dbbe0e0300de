/- Functions of the tree and of the law TreePlays, walked. Conditions: those of each theorem. -/
import Derived.Test.YtpogfelbimcglaaAm5
import Derived.Test.YtpogfelbimcglaaTp6
import Derived.Test.YtpogfelbimcglaaTr10c
namespace Go.Proofs.Ytpogfelbimcglaa.Am
open Go.Proofs
set_option maxRecDepth 1000000
set_option maxHeartbeats 4000000
set_option linter.unusedSimpArgs false
set_option linter.unusedVariables false
structure Act where
  op : Int
  lba : Int
  len : Int
  phys : Int
def rwAct : Rw Act := ⟨4, fun x => [.i .i64 x.op, .i .i64 x.lba, .i .i64 x.len, .i .i64 x.phys], fun _ => rfl, fun _ => by simp [okL, okV]⟩
theorem Act_len (xs : List Act) : (cellsR rwAct xs).length = xs.length * 4 := cellsR_len rwAct xs
theorem Act_set {xs : List Act} {x : Act} {i : Nat} (h : xs[i]? = some x) (op_ : Int) (lba_ : Int) (len_ : Int) (phys_ : Int) : setL (cellsR rwAct xs) (i * 4) [.i .i64 op_, .i .i64 lba_, .i .i64 len_, .i .i64 phys_] = cellsR rwAct (xs.set i ⟨op_, lba_, len_, phys_⟩) := cellsR_set0 (R := rwAct) h (Nat.le_refl _) rfl
theorem Act_app1 {xs : List Act} {op_ : Int} {lba_ : Int} {len_ : Int} {phys_ : Int} : cellsR rwAct xs ++ [.i .i64 op_, .i .i64 lba_, .i .i64 len_, .i .i64 phys_] = cellsR rwAct (xs ++ [⟨op_, lba_, len_, phys_⟩]) := by rw [cellsR_app]; simp [cellsR, rwAct]
theorem Act_reps {op_ : Int} {lba_ : Int} {len_ : Int} {phys_ : Int} (n : Nat) : reps [.i .i64 op_, .i .i64 lba_, .i .i64 len_, .i .i64 phys_] n = cellsR rwAct (List.replicate n ⟨op_, lba_, len_, phys_⟩) := cellsR_reps rwAct ⟨op_, lba_, len_, phys_⟩ n
theorem Act_one {op_ : Int} {lba_ : Int} {len_ : Int} {phys_ : Int} : cellsR rwAct [⟨op_, lba_, len_, phys_⟩] = [.i .i64 op_, .i .i64 lba_, .i .i64 len_, .i .i64 phys_] := by simp [cellsR, rwAct]
theorem Act_set_op {xs : List Act} {x : Act} {i : Nat} (h : xs[i]? = some x) (v_ : Int) : setL (cellsR rwAct xs) (i * 4) [.i .i64 v_] = cellsR rwAct (xs.set i { x with op := v_ }) := cellsR_set0 (R := rwAct) h (Nat.le_of_ble_eq_true rfl) rfl
theorem Act_set_lba {xs : List Act} {x : Act} {i : Nat} (h : xs[i]? = some x) (v_ : Int) : setL (cellsR rwAct xs) (i * 4 + 1) [.i .i64 v_] = cellsR rwAct (xs.set i { x with lba := v_ }) := cellsR_set (R := rwAct) h (Nat.le_of_ble_eq_true rfl) rfl
theorem Act_set_len {xs : List Act} {x : Act} {i : Nat} (h : xs[i]? = some x) (v_ : Int) : setL (cellsR rwAct xs) (i * 4 + 2) [.i .i64 v_] = cellsR rwAct (xs.set i { x with len := v_ }) := cellsR_set (R := rwAct) h (Nat.le_of_ble_eq_true rfl) rfl
theorem Act_set_phys {xs : List Act} {x : Act} {i : Nat} (h : xs[i]? = some x) (v_ : Int) : setL (cellsR rwAct xs) (i * 4 + 3) [.i .i64 v_] = cellsR rwAct (xs.set i { x with phys := v_ }) := cellsR_set (R := rwAct) h (Nat.le_of_ble_eq_true rfl) rfl
def wV (b : Bool) (L : List Rn) : V := match L with
  | [] => match b with
    | true => .sl (some (4, 0)) 0 0 false
    | false => .sl none 0 0 false
  | _ :: t => .sl (some (4, 0)) (t.length + 1) (t.length + 1) true
def bW (L : List Rn) : Option Blk := match L with
  | [] => none
  | x :: t => some ⟨cellsR rwRn (x :: t), 31, true⟩
/-- The law's memory: the calls, the tree, the row. -/
def MP (l : List Act) (s : TS) (w : Option Blk) : List (Option Blk) := [some ⟨cellsR rwAct l, 42, false⟩, some ⟨cellsR rwPl s.ps, 64, true⟩, some ⟨[.sl (some (1,0)) s.ps.length s.ps.length false, .i .u32 s.fr, .i .i64 s.n], 60, true⟩,
  some ⟨[.p (some (2,0)), .i .u32 s.T.id, .i .i64 s.n], 66, true⟩, w]
abbrev StP := Nat × TS × Bool
def SSp (size : Nat) (l : List Act) (c : Nat) (ask : Int) (a : StP) : List (Nat × V) := [(0, .i .i64 size), (1, .sl (some (0,0)) l.length c false), (2, .i .i64 ask), (7, .p (some (2,0))), (9, .p (some (3,0))), (10, wV a.2.2 (runsT a.2.1.T)), (11, .i .i64 a.1)]
def MMp (l : List Act) (a : StP) : List (Option Blk) := MP l a.2.1 (bW (runsT a.2.1.T))
def InvP (size m : Nat) (a : StP) : Prop := a.1 ≤ m ∧ TOk size a.2.1
abbrev PostP (size : Nat) (l : List Act) (c : Nat) (ask : Int) (s : StP) : Ex → T V → LH → Prop := fun x t' h' => match x with
  | .n => ∃ s', InvP size l.length s' ∧ l.length - s'.1 < l.length - s.1 ∧ Seen 1 t' h' (SSp size l c ask s') (MMp l s')
  | .x j => j = 0 ∧ ∃ b : Unit, True ∧ Seen 1 t' h' [] [some ⟨cellsR rwAct l, 42, false⟩]
  | .r => False
theorem awake_fm : FM Try.prog 7 [] [] (fun v M' => v = .b true ∧ M' = []) := FM.run (tb := tb) (by kernel_rfl) 100000 (by kernel_rfl)
theorem tr_cases {n : Nat} {s : TS} (h : TOk n s) : (s.T = .lf ∧ s.n = 0 ∧ runsT s.T = []) ∨ (0 < s.n ∧ ∃ x t, runsT s.T = x :: t ∧ t.length + 1 = s.n) := by
  cases hT : s.T with
  | lf => exact .inl ⟨rfl, by rw [TS.n, hT]; rfl, rfl⟩
  | nd id l a b c r =>
    right
    have hn : s.n = (runsT s.T).length := (runsT_len s.T).symm
    have hne : 0 < s.n := by rw [TS.n, hT, ids_nd, List.length_append, List.length_cons]; omega
    rw [hT] at hn
    cases hL : runsT (Tr.nd id l a b c r) with
    | nil => rw [hL] at hn; simp at hn; omega
    | cons x t => rw [hL] at hn; exact ⟨hne, x, t, rfl, by simpa using hn.symm⟩
theorem fid_none {n : Nat} {s : TS} {k : Int} (H : TOk n s) (hg : getL k s.T.ino = none) : fid k s.T = 0 := by
  rcases Nat.eq_zero_or_pos (fid k s.T) with h | h
  · exact h
  · have := (fid_get k s.T H.srt fun j hj => (H.rep.pos j hj).1).1 (by omega)
    rw [hg] at this; cases this
theorem get_runs {s : TS} (k : Int) : getRn k (runsT s.T) = (getL k s.T.ino).map toRn := (getRn_map k s.T.ino).symm
theorem atL_no {s : TS} {k : Int} (hg : getL k s.T.ino = none) : atL k (runsT s.T) 0 = -1 := by
  rcases at_pos k (runsT s.T) (runsT s.T) 0 rfl with ⟨e, _⟩ | ⟨j, x, _, _, e⟩
  · exact e
  · rw [get_runs, hg] at e; cases e
theorem atL_yes {s : TS} {k : Int} (hg : (getL k s.T.ino).isSome = true) : ∃ (j : Nat) (x : Rn), atL k (runsT s.T) 0 = j ∧ (runsT s.T)[j]? = some x ∧ x.a = k := by
  rcases at_pos k (runsT s.T) (runsT s.T) 0 rfl with ⟨_, e⟩ | ⟨j, x, e, hx, e2⟩
  · rw [get_runs] at e
    cases h : getL k s.T.ino with
    | none => rw [h] at hg; cases hg
    | some y => rw [h] at e; cases e
  · refine ⟨j, x, e, hx, ?_⟩
    have := List.find?_some e2
    simpa using this
theorem pl_other_none (size : Nat) (l : List Act) (c i : Nat) (ask : Int) (s : TS) (op lba len phys : Int) (H : TOk size s) (hl : l.length ≤ 120) (h1 : 1 ≤ size) (h2 : size ≤ 60) (hx : l[i]? = some ⟨op, lba, len, phys⟩) (ho : ¬ op = 0 ∧ ¬ op = 1 ∧ ¬ op = 2) (hT : s.T = .lf) :
    WS Try.prog (frameN Try.f4 3) 1 [.c (k1 (k1 (k2 (k1 (k2 (k2 (k2 (k2 (k2 (k2 (k2 (kb Try.f4))))))))))))] (slt (SSp size l c ask (i, s, false))) (mem 0 (MMp l (i, s, false))) (PostP size l c ask (i, s, false)) := by
  have hi : i < l.length := (List.getElem?_eq_some_iff.1 hx).1
  have hle := H.le
  have hL := H.len
  obtain ⟨ho0, ho1, ho2⟩ := ho
  have hn0 := n_lf hT
  have hr0 := runs_lf hT
  have A1 := asked_none lba H h2 hT
  have A2 := asked_none ask H h2 hT
  have B := whole_none H h2 hT
  have K := at_none lba
  simp only [SSp, MMp, MP, wV, bW, hr0]
  iterate 2 refine jq ?_
  refine jg ?_
  iterate 3 refine jo ?_
  refine jDT ?_
  refine je ?_
  refine WS.pcondT rfl rfl ?_
  refine WS.pskip rfl ?_
  refine jq ?_
  refine WS.pblock rfl ?_
  refine jq ?_
  refine jg ?_
  iterate 2 refine jo ?_
  refine jI ?_
  refine WS.poA (tb := tb) rfl rfl rfl rfl (step_R rfl (evR_loads rfl rfl rfl rfl rfl (by exact (cellsR_part0 (R := rwAct) hx (by exact Nat.le_of_ble_eq_true rfl))) (by exact rfl))) (by simp only [List.drop_zero, List.drop_succ_cons, List.take_succ_cons, List.take_zero, rwPl, rwRn, rwVw, rwAct]; exact rfl) ?_
  refine jn ?_
  refine js ?_
  refine je ?_
  refine jq ?_
  refine jg ?_
  refine jP ?_
  refine jo ?_
  refine jP ?_
  refine jo ?_
  refine jP ?_
  refine jo ?_
  refine WS.poA (tb := tb) rfl rfl rfl rfl rfl (by simp only [vcells, setL, ll, nl, nz, Nat.reduceAdd, Nat.reduceMul, Int.reduceToNat]; exact rfl) ?_
  refine jn ?_
  refine js ?_
  refine je ?_
  refine jq ?_
  refine jg ?_
  refine jo ?_
  refine jP ?_
  refine jo ?_
  refine jc [] K (by simp [jOb, asN, tsR, trR, arR]) (by simp [jEb, jOb, jMb, mapL_cellsR, okL_cellsR, asN, tsR, trR, arR]) ?_; rintro _ _ ⟨rfl, rfl⟩ -; simp only [jPg, jMb, ll, Nat.reduceAdd, Nat.reduceLT, Nat.zero_add, if_true, if_false, Nat.reduceSub, reduceIte, mapL_cellsR, Nat.lt_irrefl, Nat.not_lt_zero, Nat.zero_lt_succ, Nat.lt_add_one, asN, tsR, trR, arR]
  refine jo ?_
  refine je ?_
  iterate 2 refine jq ?_
  refine jg ?_
  refine jP ?_
  refine jo ?_
  refine je ?_
  refine WS.pblock rfl ?_
  refine jq ?_
  refine jg ?_
  refine jDF ?_
  refine jo ?_
  refine je ?_
  refine WS.pcondF rfl rfl ?_
  refine jq ?_
  refine jg ?_
  refine jDF ?_
  refine jo ?_
  refine je ?_
  refine WS.pcondF rfl rfl ?_
  refine jq ?_
  refine jg ?_
  refine jDF ?_
  refine jo ?_
  refine je ?_
  refine WS.pcondF rfl rfl ?_
  refine WS.pskip rfl ?_
  refine jq ?_
  refine jg ?_
  iterate 2 refine jo ?_
  refine jP ?_
  refine jo ?_
  refine jc [1,2,3,4] A1 (by simp [jOb, asN, tsR, trR, arR]) (by simp [jEb, jOb, jMb, mapL_cellsR, okL_cellsR, asN, tsR, trR, arR]) ?_; rintro _ _ ⟨rfl, rfl⟩ -; simp only [jPg, jMb, ll, Nat.reduceAdd, Nat.reduceLT, Nat.zero_add, if_true, if_false, Nat.reduceSub, reduceIte, mapL_cellsR, Nat.lt_irrefl, Nat.not_lt_zero, Nat.zero_lt_succ, Nat.lt_add_one, asN, tsR, trR, arR]
  refine jB false ?_
  iterate 4 refine jo ?_
  refine jc [1,2,3,4] A2 (by simp [jOb, asN, tsR, trR, arR]) (by simp [jEb, jOb, jMb, mapL_cellsR, okL_cellsR, asN, tsR, trR, arR]) ?_; rintro _ _ ⟨rfl, rfl⟩ -; simp only [jPg, jMb, ll, Nat.reduceAdd, Nat.reduceLT, Nat.zero_add, if_true, if_false, Nat.reduceSub, reduceIte, mapL_cellsR, Nat.lt_irrefl, Nat.not_lt_zero, Nat.zero_lt_succ, Nat.lt_add_one, asN, tsR, trR, arR]
  refine jB false ?_
  iterate 5 refine jo ?_
  refine jc [1,2,3,4] B (by simp [jOb, asN, tsR, trR, arR]) (by simp [jEb, jOb, jMb, mapL_cellsR, okL_cellsR, asN, tsR, trR, arR]) ?_; rintro _ _ ⟨rfl, rfl⟩ -; simp only [jPg, jMb, ll, Nat.reduceAdd, Nat.reduceLT, Nat.zero_add, if_true, if_false, Nat.reduceSub, reduceIte, mapL_cellsR, Nat.lt_irrefl, Nat.not_lt_zero, Nat.zero_lt_succ, Nat.lt_add_one, asN, tsR, trR, arR]
  refine jB false ?_
  refine jo ?_
  refine je ?_
  refine WS.pcondF rfl rfl ?_
  refine WS.pskip rfl ?_
  refine jg ?_
  refine jo ?_
  refine jW ?_
  refine jo ?_
  refine je ?_
  refine WS.nil ?_
  exact ⟨(i + 1, s, false), ⟨hi, H⟩, by simp only; omega, (jSn [0,1,2,3,4] (by simp [jVb, jOb, jMb, mapL_cellsR, okL_cellsR, SSp, MMp, MP, wV, bW, hr0]) (by simp only [jSl, jOb, jMb, Nat.reduceAdd, Nat.reduceLT, SSp, MMp, MP, wV, bW, hr0] <;> exact jClo))⟩
theorem pl_other_some (size : Nat) (l : List Act) (c i : Nat) (ask : Int) (s : TS) (op lba len phys : Int) (H : TOk size s) (hl : l.length ≤ 120) (h1 : 1 ≤ size) (h2 : size ≤ 60) (hx : l[i]? = some ⟨op, lba, len, phys⟩) (ho : ¬ op = 0 ∧ ¬ op = 1 ∧ ¬ op = 2) (hT : s.T = .lf) :
    WS Try.prog (frameN Try.f4 3) 1 [.c (k1 (k1 (k2 (k1 (k2 (k2 (k2 (k2 (k2 (k2 (k2 (kb Try.f4))))))))))))] (slt (SSp size l c ask (i, s, true))) (mem 0 (MMp l (i, s, true))) (PostP size l c ask (i, s, true)) := by
  have hi : i < l.length := (List.getElem?_eq_some_iff.1 hx).1
  have hle := H.le
  have hL := H.len
  obtain ⟨ho0, ho1, ho2⟩ := ho
  have hn0 := n_lf hT
  have hr0 := runs_lf hT
  have A1 := asked_some lba H h2 hT
  have A2 := asked_some ask H h2 hT
  have B := whole_some H h2 hT
  have K := at_some lba
  simp only [SSp, MMp, MP, wV, bW, hr0]
  iterate 2 refine jq ?_
  refine jg ?_
  iterate 3 refine jo ?_
  refine jDT ?_
  refine je ?_
  refine WS.pcondT rfl rfl ?_
  refine WS.pskip rfl ?_
  refine jq ?_
  refine WS.pblock rfl ?_
  refine jq ?_
  refine jg ?_
  iterate 2 refine jo ?_
  refine jI ?_
  refine WS.poA (tb := tb) rfl rfl rfl rfl (step_R rfl (evR_loads rfl rfl rfl rfl rfl (by exact (cellsR_part0 (R := rwAct) hx (by exact Nat.le_of_ble_eq_true rfl))) (by exact rfl))) (by simp only [List.drop_zero, List.drop_succ_cons, List.take_succ_cons, List.take_zero, rwPl, rwRn, rwVw, rwAct]; exact rfl) ?_
  refine jn ?_
  refine js ?_
  refine je ?_
  refine jq ?_
  refine jg ?_
  refine jP ?_
  refine jo ?_
  refine jP ?_
  refine jo ?_
  refine jP ?_
  refine jo ?_
  refine WS.poA (tb := tb) rfl rfl rfl rfl rfl (by simp only [vcells, setL, ll, nl, nz, Nat.reduceAdd, Nat.reduceMul, Int.reduceToNat]; exact rfl) ?_
  refine jn ?_
  refine js ?_
  refine je ?_
  refine jq ?_
  refine jg ?_
  refine jo ?_
  refine jP ?_
  refine jo ?_
  refine jc [4] K (by simp [jOb, asN, tsR, trR, arR]) (by simp [jEb, jOb, jMb, mapL_cellsR, okL_cellsR, asN, tsR, trR, arR]) ?_; rintro _ _ ⟨rfl, rfl⟩ -; simp only [jPg, jMb, ll, Nat.reduceAdd, Nat.reduceLT, Nat.zero_add, if_true, if_false, Nat.reduceSub, reduceIte, mapL_cellsR, Nat.lt_irrefl, Nat.not_lt_zero, Nat.zero_lt_succ, Nat.lt_add_one, asN, tsR, trR, arR]
  refine jo ?_
  refine je ?_
  iterate 2 refine jq ?_
  refine jg ?_
  refine jP ?_
  refine jo ?_
  refine je ?_
  refine WS.pblock rfl ?_
  refine jq ?_
  refine jg ?_
  refine jDF ?_
  refine jo ?_
  refine je ?_
  refine WS.pcondF rfl rfl ?_
  refine jq ?_
  refine jg ?_
  refine jDF ?_
  refine jo ?_
  refine je ?_
  refine WS.pcondF rfl rfl ?_
  refine jq ?_
  refine jg ?_
  refine jDF ?_
  refine jo ?_
  refine je ?_
  refine WS.pcondF rfl rfl ?_
  refine WS.pskip rfl ?_
  refine jq ?_
  refine jg ?_
  iterate 2 refine jo ?_
  refine jP ?_
  refine jo ?_
  refine jc [1,2,3,4] A1 (by simp [jOb, asN, tsR, trR, arR]) (by simp [jEb, jOb, jMb, mapL_cellsR, okL_cellsR, asN, tsR, trR, arR]) ?_; rintro _ _ ⟨rfl, rfl⟩ -; simp only [jPg, jMb, ll, Nat.reduceAdd, Nat.reduceLT, Nat.zero_add, if_true, if_false, Nat.reduceSub, reduceIte, mapL_cellsR, Nat.lt_irrefl, Nat.not_lt_zero, Nat.zero_lt_succ, Nat.lt_add_one, asN, tsR, trR, arR]
  refine jB false ?_
  iterate 4 refine jo ?_
  refine jc [1,2,3,4] A2 (by simp [jOb, asN, tsR, trR, arR]) (by simp [jEb, jOb, jMb, mapL_cellsR, okL_cellsR, asN, tsR, trR, arR]) ?_; rintro _ _ ⟨rfl, rfl⟩ -; simp only [jPg, jMb, ll, Nat.reduceAdd, Nat.reduceLT, Nat.zero_add, if_true, if_false, Nat.reduceSub, reduceIte, mapL_cellsR, Nat.lt_irrefl, Nat.not_lt_zero, Nat.zero_lt_succ, Nat.lt_add_one, asN, tsR, trR, arR]
  refine jB false ?_
  iterate 5 refine jo ?_
  refine jc [1,2,3,4] B (by simp [jOb, asN, tsR, trR, arR]) (by simp [jEb, jOb, jMb, mapL_cellsR, okL_cellsR, asN, tsR, trR, arR]) ?_; rintro _ _ ⟨rfl, rfl⟩ -; simp only [jPg, jMb, ll, Nat.reduceAdd, Nat.reduceLT, Nat.zero_add, if_true, if_false, Nat.reduceSub, reduceIte, mapL_cellsR, Nat.lt_irrefl, Nat.not_lt_zero, Nat.zero_lt_succ, Nat.lt_add_one, asN, tsR, trR, arR]
  refine jB false ?_
  refine jo ?_
  refine je ?_
  refine WS.pcondF rfl rfl ?_
  refine WS.pskip rfl ?_
  refine jg ?_
  refine jo ?_
  refine jW ?_
  refine jo ?_
  refine je ?_
  refine WS.nil ?_
  exact ⟨(i + 1, s, true), ⟨hi, H⟩, by simp only; omega, (jSn [0,1,2,3,4] (by simp [jVb, jOb, jMb, mapL_cellsR, okL_cellsR, SSp, MMp, MP, wV, bW, hr0]) (by simp only [jSl, jOb, jMb, Nat.reduceAdd, Nat.reduceLT, SSp, MMp, MP, wV, bW, hr0] <;> exact jClo))⟩
theorem pl_other_row (size : Nat) (l : List Act) (c i : Nat) (ask : Int) (s : TS) (op lba len phys : Int) (b : Bool) (H : TOk size s) (hl : l.length ≤ 120) (h1 : 1 ≤ size) (h2 : size ≤ 60) (hx : l[i]? = some ⟨op, lba, len, phys⟩) (ho : ¬ op = 0 ∧ ¬ op = 1 ∧ ¬ op = 2) (hrow : ∃ x t, runsT s.T = x :: t ∧ t.length + 1 = s.n) :
    WS Try.prog (frameN Try.f4 3) 1 [.c (k1 (k1 (k2 (k1 (k2 (k2 (k2 (k2 (k2 (k2 (k2 (kb Try.f4))))))))))))] (slt (SSp size l c ask (i, s, b))) (mem 0 (MMp l (i, s, b))) (PostP size l c ask (i, s, b)) := by
  have hi : i < l.length := (List.getElem?_eq_some_iff.1 hx).1
  have hle := H.le
  have hL := H.len
  obtain ⟨ho0, ho1, ho2⟩ := ho
  obtain ⟨x0, t0, hr0, ht0⟩ := hrow
  have hne : 0 < s.n := by omega
  have A1 := asked_walk true lba H h2 hne
  have A2 := asked_walk true ask H h2 hne
  have B := whole_walk true H h2 hne
  have K := at_walk (runsT s.T) true lba (by rw [runsT_len]; simp only [TS.n] at hle; omega)
  rw [runsT_len, show s.T.ids.length = s.n from rfl] at K
  simp only [asM, hr0] at A1 A2 B
  simp only [roW, hr0] at K
  simp only [SSp, MMp, MP, wV, bW, hr0, ht0]
  iterate 2 refine jq ?_
  refine jg ?_
  iterate 3 refine jo ?_
  refine jDT ?_
  refine je ?_
  refine WS.pcondT rfl rfl ?_
  refine WS.pskip rfl ?_
  refine jq ?_
  refine WS.pblock rfl ?_
  refine jq ?_
  refine jg ?_
  iterate 2 refine jo ?_
  refine jI ?_
  refine WS.poA (tb := tb) rfl rfl rfl rfl (step_R rfl (evR_loads rfl rfl rfl rfl rfl (by exact (cellsR_part0 (R := rwAct) hx (by exact Nat.le_of_ble_eq_true rfl))) (by exact rfl))) (by simp only [List.drop_zero, List.drop_succ_cons, List.take_succ_cons, List.take_zero, rwPl, rwRn, rwVw, rwAct]; exact rfl) ?_
  refine jn ?_
  refine js ?_
  refine je ?_
  refine jq ?_
  refine jg ?_
  refine jP ?_
  refine jo ?_
  refine jP ?_
  refine jo ?_
  refine jP ?_
  refine jo ?_
  refine WS.poA (tb := tb) rfl rfl rfl rfl rfl (by simp only [vcells, setL, ll, nl, nz, Nat.reduceAdd, Nat.reduceMul, Int.reduceToNat]; exact rfl) ?_
  refine jn ?_
  refine js ?_
  refine je ?_
  refine jq ?_
  refine jg ?_
  refine jo ?_
  refine jP ?_
  refine jo ?_
  refine jc [4] K (by simp [jOb, tsR, trR, arR, ht0]) (by simp [jEb, jOb, jMb, mapL_cellsR, okL_cellsR, tsR, trR, arR, ht0]) ?_; rintro _ _ ⟨rfl, rfl⟩ -; simp only [jPg, jMb, ll, Nat.reduceAdd, Nat.reduceLT, Nat.zero_add, if_true, if_false, Nat.reduceSub, reduceIte, mapL_cellsR, Nat.lt_irrefl, Nat.not_lt_zero, Nat.zero_lt_succ, Nat.lt_add_one, tsR, trR, arR, ht0]
  refine jo ?_
  refine je ?_
  iterate 2 refine jq ?_
  refine jg ?_
  refine jP ?_
  refine jo ?_
  refine je ?_
  refine WS.pblock rfl ?_
  refine jq ?_
  refine jg ?_
  refine jDF ?_
  refine jo ?_
  refine je ?_
  refine WS.pcondF rfl rfl ?_
  refine jq ?_
  refine jg ?_
  refine jDF ?_
  refine jo ?_
  refine je ?_
  refine WS.pcondF rfl rfl ?_
  refine jq ?_
  refine jg ?_
  refine jDF ?_
  refine jo ?_
  refine je ?_
  refine WS.pcondF rfl rfl ?_
  refine WS.pskip rfl ?_
  refine jq ?_
  refine jg ?_
  iterate 2 refine jo ?_
  refine jP ?_
  refine jo ?_
  refine jc [1,2,3,4] A1 (by simp [jOb, tsR, trR, arR, ht0]) (by simp [jEb, jOb, jMb, mapL_cellsR, okL_cellsR, tsR, trR, arR, ht0]) ?_; rintro _ _ ⟨rfl, rfl⟩ -; simp only [jPg, jMb, ll, Nat.reduceAdd, Nat.reduceLT, Nat.zero_add, if_true, if_false, Nat.reduceSub, reduceIte, mapL_cellsR, Nat.lt_irrefl, Nat.not_lt_zero, Nat.zero_lt_succ, Nat.lt_add_one, tsR, trR, arR, ht0]
  refine jB false ?_
  iterate 4 refine jo ?_
  refine jc [1,2,3,4] A2 (by simp [jOb, tsR, trR, arR, ht0]) (by simp [jEb, jOb, jMb, mapL_cellsR, okL_cellsR, tsR, trR, arR, ht0]) ?_; rintro _ _ ⟨rfl, rfl⟩ -; simp only [jPg, jMb, ll, Nat.reduceAdd, Nat.reduceLT, Nat.zero_add, if_true, if_false, Nat.reduceSub, reduceIte, mapL_cellsR, Nat.lt_irrefl, Nat.not_lt_zero, Nat.zero_lt_succ, Nat.lt_add_one, tsR, trR, arR, ht0]
  refine jB false ?_
  iterate 5 refine jo ?_
  refine jc [1,2,3,4] B (by simp [jOb, tsR, trR, arR, ht0]) (by simp [jEb, jOb, jMb, mapL_cellsR, okL_cellsR, tsR, trR, arR, ht0]) ?_; rintro _ _ ⟨rfl, rfl⟩ -; simp only [jPg, jMb, ll, Nat.reduceAdd, Nat.reduceLT, Nat.zero_add, if_true, if_false, Nat.reduceSub, reduceIte, mapL_cellsR, Nat.lt_irrefl, Nat.not_lt_zero, Nat.zero_lt_succ, Nat.lt_add_one, tsR, trR, arR, ht0]
  refine jB false ?_
  refine jo ?_
  refine je ?_
  refine WS.pcondF rfl rfl ?_
  refine WS.pskip rfl ?_
  refine jg ?_
  refine jo ?_
  refine jW ?_
  refine jo ?_
  refine je ?_
  refine WS.nil ?_
  exact ⟨(i + 1, s, b), ⟨hi, H⟩, by simp only; omega, (jSn [0,1,2,3,4] (by simp [jVb, jOb, jMb, mapL_cellsR, okL_cellsR, SSp, MMp, MP, wV, bW, hr0, ht0]) (by simp only [jSl, jOb, jMb, Nat.reduceAdd, Nat.reduceLT, SSp, MMp, MP, wV, bW, hr0, ht0] <;> exact jClo))⟩
theorem pl_delno_none (size : Nat) (l : List Act) (c i : Nat) (ask : Int) (s : TS) (op lba len phys : Int) (H : TOk size s) (hl : l.length ≤ 120) (h1 : 1 ≤ size) (h2 : size ≤ 60) (hx : l[i]? = some ⟨op, lba, len, phys⟩) (ho : op = 1) (hg : getL lba s.T.ino = none) (hT : s.T = .lf) :
    WS Try.prog (frameN Try.f4 3) 1 [.c (k1 (k1 (k2 (k1 (k2 (k2 (k2 (k2 (k2 (k2 (k2 (kb Try.f4))))))))))))] (slt (SSp size l c ask (i, s, false))) (mem 0 (MMp l (i, s, false))) (PostP size l c ask (i, s, false)) := by
  have hi : i < l.length := (List.getElem?_eq_some_iff.1 hx).1
  have hle := H.le
  have hL := H.len
  subst ho
  have D := delete_no H (by omega) hg
  have hn0 := n_lf hT
  have hr0 := runs_lf hT
  have A1 := asked_none lba H h2 hT
  have A2 := asked_none ask H h2 hT
  have B := whole_none H h2 hT
  have K := at_none lba
  simp only [SSp, MMp, MP, wV, bW, hr0]
  iterate 2 refine jq ?_
  refine jg ?_
  iterate 3 refine jo ?_
  refine jDT ?_
  refine je ?_
  refine WS.pcondT rfl rfl ?_
  refine WS.pskip rfl ?_
  refine jq ?_
  refine WS.pblock rfl ?_
  refine jq ?_
  refine jg ?_
  iterate 2 refine jo ?_
  refine jI ?_
  refine WS.poA (tb := tb) rfl rfl rfl rfl (step_R rfl (evR_loads rfl rfl rfl rfl rfl (by exact (cellsR_part0 (R := rwAct) hx (by exact Nat.le_of_ble_eq_true rfl))) (by exact rfl))) (by simp only [List.drop_zero, List.drop_succ_cons, List.take_succ_cons, List.take_zero, rwPl, rwRn, rwVw, rwAct]; exact rfl) ?_
  refine jn ?_
  refine js ?_
  refine je ?_
  refine jq ?_
  refine jg ?_
  refine jP ?_
  refine jo ?_
  refine jP ?_
  refine jo ?_
  refine jP ?_
  refine jo ?_
  refine WS.poA (tb := tb) rfl rfl rfl rfl rfl (by simp only [vcells, setL, ll, nl, nz, Nat.reduceAdd, Nat.reduceMul, Int.reduceToNat]; exact rfl) ?_
  refine jn ?_
  refine js ?_
  refine je ?_
  refine jq ?_
  refine jg ?_
  refine jo ?_
  refine jP ?_
  refine jo ?_
  refine jc [] K (by simp [jOb, asN, tsR, trR, arR, tsM, trM, arM]) (by simp [jEb, jOb, jMb, mapL_cellsR, okL_cellsR, asN, tsR, trR, arR, tsM, trM, arM]) ?_; rintro _ _ ⟨rfl, rfl⟩ -; simp only [jPg, jMb, ll, Nat.reduceAdd, Nat.reduceLT, Nat.zero_add, if_true, if_false, Nat.reduceSub, reduceIte, mapL_cellsR, Nat.lt_irrefl, Nat.not_lt_zero, Nat.zero_lt_succ, Nat.lt_add_one, asN, tsR, trR, arR, tsM, trM, arM]
  refine jo ?_
  refine je ?_
  iterate 2 refine jq ?_
  refine jg ?_
  refine jP ?_
  refine jo ?_
  refine je ?_
  refine WS.pblock rfl ?_
  refine jq ?_
  refine jg ?_
  refine jB false ?_
  refine jo ?_
  refine je ?_
  refine WS.pcondF rfl rfl ?_
  refine jq ?_
  refine jg ?_
  refine jB true ?_
  refine jo ?_
  refine je ?_
  refine WS.pcondT rfl rfl ?_
  refine jq ?_
  refine jg ?_
  refine jo ?_
  refine jP ?_
  refine jo ?_
  refine jc [1,2,3] D (by simp [jOb, asN, tsR, trR, arR, tsM, trM, arM]) (by simp [jEb, jOb, jMb, mapL_cellsR, okL_cellsR, asN, tsR, trR, arR, tsM, trM, arM]) ?_; rintro _ _ ⟨rfl, rfl⟩ -; simp only [jPg, jMb, ll, Nat.reduceAdd, Nat.reduceLT, Nat.zero_add, if_true, if_false, Nat.reduceSub, reduceIte, mapL_cellsR, Nat.lt_irrefl, Nat.not_lt_zero, Nat.zero_lt_succ, Nat.lt_add_one, asN, tsR, trR, arR, tsM, trM, arM]
  refine jo ?_
  refine je ?_
  iterate 2 refine jq ?_
  refine jg ?_
  refine jo ?_
  refine jB false ?_
  refine jo ?_
  refine jB false ?_
  refine jB false ?_
  iterate 2 refine jo ?_
  refine jB true ?_
  iterate 2 refine jo ?_
  refine jB false ?_
  iterate 2 refine jo ?_
  refine je ?_
  refine WS.pcondF rfl rfl ?_
  refine WS.pskip rfl ?_
  refine jq ?_
  refine jg ?_
  refine jo ?_
  refine jB false ?_
  refine je ?_
  refine WS.pcondF rfl rfl ?_
  refine WS.pskip rfl ?_
  refine jq ?_
  refine jg ?_
  iterate 2 refine jo ?_
  refine jP ?_
  refine jo ?_
  refine jc [1,2,3,4] A1 (by simp [jOb, asN, tsR, trR, arR, tsM, trM, arM]) (by simp [jEb, jOb, jMb, mapL_cellsR, okL_cellsR, asN, tsR, trR, arR, tsM, trM, arM]) ?_; rintro _ _ ⟨rfl, rfl⟩ -; simp only [jPg, jMb, ll, Nat.reduceAdd, Nat.reduceLT, Nat.zero_add, if_true, if_false, Nat.reduceSub, reduceIte, mapL_cellsR, Nat.lt_irrefl, Nat.not_lt_zero, Nat.zero_lt_succ, Nat.lt_add_one, asN, tsR, trR, arR, tsM, trM, arM]
  refine jB false ?_
  iterate 4 refine jo ?_
  refine jc [1,2,3,4] A2 (by simp [jOb, asN, tsR, trR, arR, tsM, trM, arM]) (by simp [jEb, jOb, jMb, mapL_cellsR, okL_cellsR, asN, tsR, trR, arR, tsM, trM, arM]) ?_; rintro _ _ ⟨rfl, rfl⟩ -; simp only [jPg, jMb, ll, Nat.reduceAdd, Nat.reduceLT, Nat.zero_add, if_true, if_false, Nat.reduceSub, reduceIte, mapL_cellsR, Nat.lt_irrefl, Nat.not_lt_zero, Nat.zero_lt_succ, Nat.lt_add_one, asN, tsR, trR, arR, tsM, trM, arM]
  refine jB false ?_
  iterate 5 refine jo ?_
  refine jc [1,2,3,4] B (by simp [jOb, asN, tsR, trR, arR, tsM, trM, arM]) (by simp [jEb, jOb, jMb, mapL_cellsR, okL_cellsR, asN, tsR, trR, arR, tsM, trM, arM]) ?_; rintro _ _ ⟨rfl, rfl⟩ -; simp only [jPg, jMb, ll, Nat.reduceAdd, Nat.reduceLT, Nat.zero_add, if_true, if_false, Nat.reduceSub, reduceIte, mapL_cellsR, Nat.lt_irrefl, Nat.not_lt_zero, Nat.zero_lt_succ, Nat.lt_add_one, asN, tsR, trR, arR, tsM, trM, arM]
  refine jB false ?_
  refine jo ?_
  refine je ?_
  refine WS.pcondF rfl rfl ?_
  refine WS.pskip rfl ?_
  refine jg ?_
  refine jo ?_
  refine jW ?_
  refine jo ?_
  refine je ?_
  refine WS.nil ?_
  exact ⟨(i + 1, s, false), ⟨hi, H⟩, by simp only; omega, (jSn [0,1,2,3,4] (by simp [jVb, jOb, jMb, mapL_cellsR, okL_cellsR, SSp, MMp, MP, wV, bW, hr0, tsM, trM, arM]) (by simp only [jSl, jOb, jMb, Nat.reduceAdd, Nat.reduceLT, SSp, MMp, MP, wV, bW, hr0, tsM, trM, arM] <;> exact jClo))⟩
theorem pl_chgno_none (size : Nat) (l : List Act) (c i : Nat) (ask : Int) (s : TS) (op lba len phys : Int) (H : TOk size s) (hl : l.length ≤ 120) (h1 : 1 ≤ size) (h2 : size ≤ 60) (hx : l[i]? = some ⟨op, lba, len, phys⟩) (ho : op = 2) (hg : getL lba s.T.ino = none) (hT : s.T = .lf) :
    WS Try.prog (frameN Try.f4 3) 1 [.c (k1 (k1 (k2 (k1 (k2 (k2 (k2 (k2 (k2 (k2 (k2 (kb Try.f4))))))))))))] (slt (SSp size l c ask (i, s, false))) (mem 0 (MMp l (i, s, false))) (PostP size l c ask (i, s, false)) := by
  have hi : i < l.length := (List.getElem?_eq_some_iff.1 hx).1
  have hle := H.le
  have hL := H.len
  subst ho
  have D := change_no s.ps s.fr s.n s.n lba len phys s.T H.rep (fid_none H hg) (by omega)
  have hn0 := n_lf hT
  have hr0 := runs_lf hT
  have A1 := asked_none lba H h2 hT
  have A2 := asked_none ask H h2 hT
  have B := whole_none H h2 hT
  have K := at_none lba
  simp only [SSp, MMp, MP, wV, bW, hr0]
  iterate 2 refine jq ?_
  refine jg ?_
  iterate 3 refine jo ?_
  refine jDT ?_
  refine je ?_
  refine WS.pcondT rfl rfl ?_
  refine WS.pskip rfl ?_
  refine jq ?_
  refine WS.pblock rfl ?_
  refine jq ?_
  refine jg ?_
  iterate 2 refine jo ?_
  refine jI ?_
  refine WS.poA (tb := tb) rfl rfl rfl rfl (step_R rfl (evR_loads rfl rfl rfl rfl rfl (by exact (cellsR_part0 (R := rwAct) hx (by exact Nat.le_of_ble_eq_true rfl))) (by exact rfl))) (by simp only [List.drop_zero, List.drop_succ_cons, List.take_succ_cons, List.take_zero, rwPl, rwRn, rwVw, rwAct]; exact rfl) ?_
  refine jn ?_
  refine js ?_
  refine je ?_
  refine jq ?_
  refine jg ?_
  refine jP ?_
  refine jo ?_
  refine jP ?_
  refine jo ?_
  refine jP ?_
  refine jo ?_
  refine WS.poA (tb := tb) rfl rfl rfl rfl rfl (by simp only [vcells, setL, ll, nl, nz, Nat.reduceAdd, Nat.reduceMul, Int.reduceToNat]; exact rfl) ?_
  refine jn ?_
  refine js ?_
  refine je ?_
  refine jq ?_
  refine jg ?_
  refine jo ?_
  refine jP ?_
  refine jo ?_
  refine jc [] K (by simp [jOb, asN, tsR, trR, arR, tsM, trM, arM]) (by simp [jEb, jOb, jMb, mapL_cellsR, okL_cellsR, asN, tsR, trR, arR, tsM, trM, arM]) ?_; rintro _ _ ⟨rfl, rfl⟩ -; simp only [jPg, jMb, ll, Nat.reduceAdd, Nat.reduceLT, Nat.zero_add, if_true, if_false, Nat.reduceSub, reduceIte, mapL_cellsR, Nat.lt_irrefl, Nat.not_lt_zero, Nat.zero_lt_succ, Nat.lt_add_one, asN, tsR, trR, arR, tsM, trM, arM]
  refine jo ?_
  refine je ?_
  iterate 2 refine jq ?_
  refine jg ?_
  refine jP ?_
  refine jo ?_
  refine je ?_
  refine WS.pblock rfl ?_
  refine jq ?_
  refine jg ?_
  refine jB false ?_
  refine jo ?_
  refine je ?_
  refine WS.pcondF rfl rfl ?_
  refine jq ?_
  refine jg ?_
  refine jB false ?_
  refine jo ?_
  refine je ?_
  refine WS.pcondF rfl rfl ?_
  refine jq ?_
  refine jg ?_
  refine jB true ?_
  refine jo ?_
  refine je ?_
  refine WS.pcondT rfl rfl ?_
  refine jq ?_
  refine jg ?_
  refine jo ?_
  refine WS.poA (tb := tb) rfl rfl rfl rfl rfl (by simp only [List.drop_zero, List.drop_succ_cons, List.take_succ_cons, List.take_zero, rwPl, rwRn, rwVw, rwAct]; exact rfl) ?_
  refine jc [1,2,3] D (by simp [jOb, asN, tsR, trR, arR, tsM, trM, arM]) (by simp [jEb, jOb, jMb, mapL_cellsR, okL_cellsR, asN, tsR, trR, arR, tsM, trM, arM]) ?_; rintro _ _ ⟨rfl, rfl⟩ -; simp only [jPg, jMb, ll, Nat.reduceAdd, Nat.reduceLT, Nat.zero_add, if_true, if_false, Nat.reduceSub, reduceIte, mapL_cellsR, Nat.lt_irrefl, Nat.not_lt_zero, Nat.zero_lt_succ, Nat.lt_add_one, asN, tsR, trR, arR, tsM, trM, arM]
  refine jo ?_
  refine je ?_
  iterate 2 refine jq ?_
  refine jg ?_
  refine jo ?_
  refine jB false ?_
  refine jo ?_
  refine jB false ?_
  refine jB false ?_
  iterate 2 refine jo ?_
  refine jB true ?_
  iterate 2 refine jo ?_
  refine jB false ?_
  iterate 2 refine jo ?_
  refine je ?_
  refine WS.pcondF rfl rfl ?_
  refine WS.pskip rfl ?_
  refine jq ?_
  refine jg ?_
  refine jo ?_
  refine jB false ?_
  refine je ?_
  refine WS.pcondF rfl rfl ?_
  refine WS.pskip rfl ?_
  refine jq ?_
  refine jg ?_
  iterate 2 refine jo ?_
  refine jP ?_
  refine jo ?_
  refine jc [1,2,3,4] A1 (by simp [jOb, asN, tsR, trR, arR, tsM, trM, arM]) (by simp [jEb, jOb, jMb, mapL_cellsR, okL_cellsR, asN, tsR, trR, arR, tsM, trM, arM]) ?_; rintro _ _ ⟨rfl, rfl⟩ -; simp only [jPg, jMb, ll, Nat.reduceAdd, Nat.reduceLT, Nat.zero_add, if_true, if_false, Nat.reduceSub, reduceIte, mapL_cellsR, Nat.lt_irrefl, Nat.not_lt_zero, Nat.zero_lt_succ, Nat.lt_add_one, asN, tsR, trR, arR, tsM, trM, arM]
  refine jB false ?_
  iterate 4 refine jo ?_
  refine jc [1,2,3,4] A2 (by simp [jOb, asN, tsR, trR, arR, tsM, trM, arM]) (by simp [jEb, jOb, jMb, mapL_cellsR, okL_cellsR, asN, tsR, trR, arR, tsM, trM, arM]) ?_; rintro _ _ ⟨rfl, rfl⟩ -; simp only [jPg, jMb, ll, Nat.reduceAdd, Nat.reduceLT, Nat.zero_add, if_true, if_false, Nat.reduceSub, reduceIte, mapL_cellsR, Nat.lt_irrefl, Nat.not_lt_zero, Nat.zero_lt_succ, Nat.lt_add_one, asN, tsR, trR, arR, tsM, trM, arM]
  refine jB false ?_
  iterate 5 refine jo ?_
  refine jc [1,2,3,4] B (by simp [jOb, asN, tsR, trR, arR, tsM, trM, arM]) (by simp [jEb, jOb, jMb, mapL_cellsR, okL_cellsR, asN, tsR, trR, arR, tsM, trM, arM]) ?_; rintro _ _ ⟨rfl, rfl⟩ -; simp only [jPg, jMb, ll, Nat.reduceAdd, Nat.reduceLT, Nat.zero_add, if_true, if_false, Nat.reduceSub, reduceIte, mapL_cellsR, Nat.lt_irrefl, Nat.not_lt_zero, Nat.zero_lt_succ, Nat.lt_add_one, asN, tsR, trR, arR, tsM, trM, arM]
  refine jB false ?_
  refine jo ?_
  refine je ?_
  refine WS.pcondF rfl rfl ?_
  refine WS.pskip rfl ?_
  refine jg ?_
  refine jo ?_
  refine jW ?_
  refine jo ?_
  refine je ?_
  refine WS.nil ?_
  exact ⟨(i + 1, s, false), ⟨hi, H⟩, by simp only; omega, (jSn [0,1,2,3,4] (by simp [jVb, jOb, jMb, mapL_cellsR, okL_cellsR, SSp, MMp, MP, wV, bW, hr0, tsM, trM, arM]) (by simp only [jSl, jOb, jMb, Nat.reduceAdd, Nat.reduceLT, SSp, MMp, MP, wV, bW, hr0, tsM, trM, arM] <;> exact jClo))⟩
theorem pl_delno_some (size : Nat) (l : List Act) (c i : Nat) (ask : Int) (s : TS) (op lba len phys : Int) (H : TOk size s) (hl : l.length ≤ 120) (h1 : 1 ≤ size) (h2 : size ≤ 60) (hx : l[i]? = some ⟨op, lba, len, phys⟩) (ho : op = 1) (hg : getL lba s.T.ino = none) (hT : s.T = .lf) :
    WS Try.prog (frameN Try.f4 3) 1 [.c (k1 (k1 (k2 (k1 (k2 (k2 (k2 (k2 (k2 (k2 (k2 (kb Try.f4))))))))))))] (slt (SSp size l c ask (i, s, true))) (mem 0 (MMp l (i, s, true))) (PostP size l c ask (i, s, true)) := by
  have hi : i < l.length := (List.getElem?_eq_some_iff.1 hx).1
  have hle := H.le
  have hL := H.len
  subst ho
  have D := delete_no H (by omega) hg
  have hn0 := n_lf hT
  have hr0 := runs_lf hT
  have A1 := asked_some lba H h2 hT
  have A2 := asked_some ask H h2 hT
  have B := whole_some H h2 hT
  have K := at_some lba
  simp only [SSp, MMp, MP, wV, bW, hr0]
  iterate 2 refine jq ?_
  refine jg ?_
  iterate 3 refine jo ?_
  refine jDT ?_
  refine je ?_
  refine WS.pcondT rfl rfl ?_
  refine WS.pskip rfl ?_
  refine jq ?_
  refine WS.pblock rfl ?_
  refine jq ?_
  refine jg ?_
  iterate 2 refine jo ?_
  refine jI ?_
  refine WS.poA (tb := tb) rfl rfl rfl rfl (step_R rfl (evR_loads rfl rfl rfl rfl rfl (by exact (cellsR_part0 (R := rwAct) hx (by exact Nat.le_of_ble_eq_true rfl))) (by exact rfl))) (by simp only [List.drop_zero, List.drop_succ_cons, List.take_succ_cons, List.take_zero, rwPl, rwRn, rwVw, rwAct]; exact rfl) ?_
  refine jn ?_
  refine js ?_
  refine je ?_
  refine jq ?_
  refine jg ?_
  refine jP ?_
  refine jo ?_
  refine jP ?_
  refine jo ?_
  refine jP ?_
  refine jo ?_
  refine WS.poA (tb := tb) rfl rfl rfl rfl rfl (by simp only [vcells, setL, ll, nl, nz, Nat.reduceAdd, Nat.reduceMul, Int.reduceToNat]; exact rfl) ?_
  refine jn ?_
  refine js ?_
  refine je ?_
  refine jq ?_
  refine jg ?_
  refine jo ?_
  refine jP ?_
  refine jo ?_
  refine jc [4] K (by simp [jOb, asN, tsR, trR, arR, tsM, trM, arM]) (by simp [jEb, jOb, jMb, mapL_cellsR, okL_cellsR, asN, tsR, trR, arR, tsM, trM, arM]) ?_; rintro _ _ ⟨rfl, rfl⟩ -; simp only [jPg, jMb, ll, Nat.reduceAdd, Nat.reduceLT, Nat.zero_add, if_true, if_false, Nat.reduceSub, reduceIte, mapL_cellsR, Nat.lt_irrefl, Nat.not_lt_zero, Nat.zero_lt_succ, Nat.lt_add_one, asN, tsR, trR, arR, tsM, trM, arM]
  refine jo ?_
  refine je ?_
  iterate 2 refine jq ?_
  refine jg ?_
  refine jP ?_
  refine jo ?_
  refine je ?_
  refine WS.pblock rfl ?_
  refine jq ?_
  refine jg ?_
  refine jB false ?_
  refine jo ?_
  refine je ?_
  refine WS.pcondF rfl rfl ?_
  refine jq ?_
  refine jg ?_
  refine jB true ?_
  refine jo ?_
  refine je ?_
  refine WS.pcondT rfl rfl ?_
  refine jq ?_
  refine jg ?_
  refine jo ?_
  refine jP ?_
  refine jo ?_
  refine jc [1,2,3] D (by simp [jOb, asN, tsR, trR, arR, tsM, trM, arM]) (by simp [jEb, jOb, jMb, mapL_cellsR, okL_cellsR, asN, tsR, trR, arR, tsM, trM, arM]) ?_; rintro _ _ ⟨rfl, rfl⟩ -; simp only [jPg, jMb, ll, Nat.reduceAdd, Nat.reduceLT, Nat.zero_add, if_true, if_false, Nat.reduceSub, reduceIte, mapL_cellsR, Nat.lt_irrefl, Nat.not_lt_zero, Nat.zero_lt_succ, Nat.lt_add_one, asN, tsR, trR, arR, tsM, trM, arM]
  refine jo ?_
  refine je ?_
  iterate 2 refine jq ?_
  refine jg ?_
  refine jo ?_
  refine jB false ?_
  refine jo ?_
  refine jB false ?_
  refine jB false ?_
  iterate 2 refine jo ?_
  refine jB true ?_
  iterate 2 refine jo ?_
  refine jB false ?_
  iterate 2 refine jo ?_
  refine je ?_
  refine WS.pcondF rfl rfl ?_
  refine WS.pskip rfl ?_
  refine jq ?_
  refine jg ?_
  refine jo ?_
  refine jB false ?_
  refine je ?_
  refine WS.pcondF rfl rfl ?_
  refine WS.pskip rfl ?_
  refine jq ?_
  refine jg ?_
  iterate 2 refine jo ?_
  refine jP ?_
  refine jo ?_
  refine jc [1,2,3,4] A1 (by simp [jOb, asN, tsR, trR, arR, tsM, trM, arM]) (by simp [jEb, jOb, jMb, mapL_cellsR, okL_cellsR, asN, tsR, trR, arR, tsM, trM, arM]) ?_; rintro _ _ ⟨rfl, rfl⟩ -; simp only [jPg, jMb, ll, Nat.reduceAdd, Nat.reduceLT, Nat.zero_add, if_true, if_false, Nat.reduceSub, reduceIte, mapL_cellsR, Nat.lt_irrefl, Nat.not_lt_zero, Nat.zero_lt_succ, Nat.lt_add_one, asN, tsR, trR, arR, tsM, trM, arM]
  refine jB false ?_
  iterate 4 refine jo ?_
  refine jc [1,2,3,4] A2 (by simp [jOb, asN, tsR, trR, arR, tsM, trM, arM]) (by simp [jEb, jOb, jMb, mapL_cellsR, okL_cellsR, asN, tsR, trR, arR, tsM, trM, arM]) ?_; rintro _ _ ⟨rfl, rfl⟩ -; simp only [jPg, jMb, ll, Nat.reduceAdd, Nat.reduceLT, Nat.zero_add, if_true, if_false, Nat.reduceSub, reduceIte, mapL_cellsR, Nat.lt_irrefl, Nat.not_lt_zero, Nat.zero_lt_succ, Nat.lt_add_one, asN, tsR, trR, arR, tsM, trM, arM]
  refine jB false ?_
  iterate 5 refine jo ?_
  refine jc [1,2,3,4] B (by simp [jOb, asN, tsR, trR, arR, tsM, trM, arM]) (by simp [jEb, jOb, jMb, mapL_cellsR, okL_cellsR, asN, tsR, trR, arR, tsM, trM, arM]) ?_; rintro _ _ ⟨rfl, rfl⟩ -; simp only [jPg, jMb, ll, Nat.reduceAdd, Nat.reduceLT, Nat.zero_add, if_true, if_false, Nat.reduceSub, reduceIte, mapL_cellsR, Nat.lt_irrefl, Nat.not_lt_zero, Nat.zero_lt_succ, Nat.lt_add_one, asN, tsR, trR, arR, tsM, trM, arM]
  refine jB false ?_
  refine jo ?_
  refine je ?_
  refine WS.pcondF rfl rfl ?_
  refine WS.pskip rfl ?_
  refine jg ?_
  refine jo ?_
  refine jW ?_
  refine jo ?_
  refine je ?_
  refine WS.nil ?_
  exact ⟨(i + 1, s, true), ⟨hi, H⟩, by simp only; omega, (jSn [0,1,2,3,4] (by simp [jVb, jOb, jMb, mapL_cellsR, okL_cellsR, SSp, MMp, MP, wV, bW, hr0, tsM, trM, arM]) (by simp only [jSl, jOb, jMb, Nat.reduceAdd, Nat.reduceLT, SSp, MMp, MP, wV, bW, hr0, tsM, trM, arM] <;> exact jClo))⟩
theorem pl_chgno_some (size : Nat) (l : List Act) (c i : Nat) (ask : Int) (s : TS) (op lba len phys : Int) (H : TOk size s) (hl : l.length ≤ 120) (h1 : 1 ≤ size) (h2 : size ≤ 60) (hx : l[i]? = some ⟨op, lba, len, phys⟩) (ho : op = 2) (hg : getL lba s.T.ino = none) (hT : s.T = .lf) :
    WS Try.prog (frameN Try.f4 3) 1 [.c (k1 (k1 (k2 (k1 (k2 (k2 (k2 (k2 (k2 (k2 (k2 (kb Try.f4))))))))))))] (slt (SSp size l c ask (i, s, true))) (mem 0 (MMp l (i, s, true))) (PostP size l c ask (i, s, true)) := by
  have hi : i < l.length := (List.getElem?_eq_some_iff.1 hx).1
  have hle := H.le
  have hL := H.len
  subst ho
  have D := change_no s.ps s.fr s.n s.n lba len phys s.T H.rep (fid_none H hg) (by omega)
  have hn0 := n_lf hT
  have hr0 := runs_lf hT
  have A1 := asked_some lba H h2 hT
  have A2 := asked_some ask H h2 hT
  have B := whole_some H h2 hT
  have K := at_some lba
  simp only [SSp, MMp, MP, wV, bW, hr0]
  iterate 2 refine jq ?_
  refine jg ?_
  iterate 3 refine jo ?_
  refine jDT ?_
  refine je ?_
  refine WS.pcondT rfl rfl ?_
  refine WS.pskip rfl ?_
  refine jq ?_
  refine WS.pblock rfl ?_
  refine jq ?_
  refine jg ?_
  iterate 2 refine jo ?_
  refine jI ?_
  refine WS.poA (tb := tb) rfl rfl rfl rfl (step_R rfl (evR_loads rfl rfl rfl rfl rfl (by exact (cellsR_part0 (R := rwAct) hx (by exact Nat.le_of_ble_eq_true rfl))) (by exact rfl))) (by simp only [List.drop_zero, List.drop_succ_cons, List.take_succ_cons, List.take_zero, rwPl, rwRn, rwVw, rwAct]; exact rfl) ?_
  refine jn ?_
  refine js ?_
  refine je ?_
  refine jq ?_
  refine jg ?_
  refine jP ?_
  refine jo ?_
  refine jP ?_
  refine jo ?_
  refine jP ?_
  refine jo ?_
  refine WS.poA (tb := tb) rfl rfl rfl rfl rfl (by simp only [vcells, setL, ll, nl, nz, Nat.reduceAdd, Nat.reduceMul, Int.reduceToNat]; exact rfl) ?_
  refine jn ?_
  refine js ?_
  refine je ?_
  refine jq ?_
  refine jg ?_
  refine jo ?_
  refine jP ?_
  refine jo ?_
  refine jc [4] K (by simp [jOb, asN, tsR, trR, arR, tsM, trM, arM]) (by simp [jEb, jOb, jMb, mapL_cellsR, okL_cellsR, asN, tsR, trR, arR, tsM, trM, arM]) ?_; rintro _ _ ⟨rfl, rfl⟩ -; simp only [jPg, jMb, ll, Nat.reduceAdd, Nat.reduceLT, Nat.zero_add, if_true, if_false, Nat.reduceSub, reduceIte, mapL_cellsR, Nat.lt_irrefl, Nat.not_lt_zero, Nat.zero_lt_succ, Nat.lt_add_one, asN, tsR, trR, arR, tsM, trM, arM]
  refine jo ?_
  refine je ?_
  iterate 2 refine jq ?_
  refine jg ?_
  refine jP ?_
  refine jo ?_
  refine je ?_
  refine WS.pblock rfl ?_
  refine jq ?_
  refine jg ?_
  refine jB false ?_
  refine jo ?_
  refine je ?_
  refine WS.pcondF rfl rfl ?_
  refine jq ?_
  refine jg ?_
  refine jB false ?_
  refine jo ?_
  refine je ?_
  refine WS.pcondF rfl rfl ?_
  refine jq ?_
  refine jg ?_
  refine jB true ?_
  refine jo ?_
  refine je ?_
  refine WS.pcondT rfl rfl ?_
  refine jq ?_
  refine jg ?_
  refine jo ?_
  refine WS.poA (tb := tb) rfl rfl rfl rfl rfl (by simp only [List.drop_zero, List.drop_succ_cons, List.take_succ_cons, List.take_zero, rwPl, rwRn, rwVw, rwAct]; exact rfl) ?_
  refine jc [1,2,3] D (by simp [jOb, asN, tsR, trR, arR, tsM, trM, arM]) (by simp [jEb, jOb, jMb, mapL_cellsR, okL_cellsR, asN, tsR, trR, arR, tsM, trM, arM]) ?_; rintro _ _ ⟨rfl, rfl⟩ -; simp only [jPg, jMb, ll, Nat.reduceAdd, Nat.reduceLT, Nat.zero_add, if_true, if_false, Nat.reduceSub, reduceIte, mapL_cellsR, Nat.lt_irrefl, Nat.not_lt_zero, Nat.zero_lt_succ, Nat.lt_add_one, asN, tsR, trR, arR, tsM, trM, arM]
  refine jo ?_
  refine je ?_
  iterate 2 refine jq ?_
  refine jg ?_
  refine jo ?_
  refine jB false ?_
  refine jo ?_
  refine jB false ?_
  refine jB false ?_
  iterate 2 refine jo ?_
  refine jB true ?_
  iterate 2 refine jo ?_
  refine jB false ?_
  iterate 2 refine jo ?_
  refine je ?_
  refine WS.pcondF rfl rfl ?_
  refine WS.pskip rfl ?_
  refine jq ?_
  refine jg ?_
  refine jo ?_
  refine jB false ?_
  refine je ?_
  refine WS.pcondF rfl rfl ?_
  refine WS.pskip rfl ?_
  refine jq ?_
  refine jg ?_
  iterate 2 refine jo ?_
  refine jP ?_
  refine jo ?_
  refine jc [1,2,3,4] A1 (by simp [jOb, asN, tsR, trR, arR, tsM, trM, arM]) (by simp [jEb, jOb, jMb, mapL_cellsR, okL_cellsR, asN, tsR, trR, arR, tsM, trM, arM]) ?_; rintro _ _ ⟨rfl, rfl⟩ -; simp only [jPg, jMb, ll, Nat.reduceAdd, Nat.reduceLT, Nat.zero_add, if_true, if_false, Nat.reduceSub, reduceIte, mapL_cellsR, Nat.lt_irrefl, Nat.not_lt_zero, Nat.zero_lt_succ, Nat.lt_add_one, asN, tsR, trR, arR, tsM, trM, arM]
  refine jB false ?_
  iterate 4 refine jo ?_
  refine jc [1,2,3,4] A2 (by simp [jOb, asN, tsR, trR, arR, tsM, trM, arM]) (by simp [jEb, jOb, jMb, mapL_cellsR, okL_cellsR, asN, tsR, trR, arR, tsM, trM, arM]) ?_; rintro _ _ ⟨rfl, rfl⟩ -; simp only [jPg, jMb, ll, Nat.reduceAdd, Nat.reduceLT, Nat.zero_add, if_true, if_false, Nat.reduceSub, reduceIte, mapL_cellsR, Nat.lt_irrefl, Nat.not_lt_zero, Nat.zero_lt_succ, Nat.lt_add_one, asN, tsR, trR, arR, tsM, trM, arM]
  refine jB false ?_
  iterate 5 refine jo ?_
  refine jc [1,2,3,4] B (by simp [jOb, asN, tsR, trR, arR, tsM, trM, arM]) (by simp [jEb, jOb, jMb, mapL_cellsR, okL_cellsR, asN, tsR, trR, arR, tsM, trM, arM]) ?_; rintro _ _ ⟨rfl, rfl⟩ -; simp only [jPg, jMb, ll, Nat.reduceAdd, Nat.reduceLT, Nat.zero_add, if_true, if_false, Nat.reduceSub, reduceIte, mapL_cellsR, Nat.lt_irrefl, Nat.not_lt_zero, Nat.zero_lt_succ, Nat.lt_add_one, asN, tsR, trR, arR, tsM, trM, arM]
  refine jB false ?_
  refine jo ?_
  refine je ?_
  refine WS.pcondF rfl rfl ?_
  refine WS.pskip rfl ?_
  refine jg ?_
  refine jo ?_
  refine jW ?_
  refine jo ?_
  refine je ?_
  refine WS.nil ?_
  exact ⟨(i + 1, s, true), ⟨hi, H⟩, by simp only; omega, (jSn [0,1,2,3,4] (by simp [jVb, jOb, jMb, mapL_cellsR, okL_cellsR, SSp, MMp, MP, wV, bW, hr0, tsM, trM, arM]) (by simp only [jSl, jOb, jMb, Nat.reduceAdd, Nat.reduceLT, SSp, MMp, MP, wV, bW, hr0, tsM, trM, arM] <;> exact jClo))⟩
theorem pl_delno_row (size : Nat) (l : List Act) (c i : Nat) (ask : Int) (s : TS) (op lba len phys : Int) (b : Bool) (H : TOk size s) (hl : l.length ≤ 120) (h1 : 1 ≤ size) (h2 : size ≤ 60) (hx : l[i]? = some ⟨op, lba, len, phys⟩) (ho : op = 1) (hg : getL lba s.T.ino = none) (hrow : ∃ x t, runsT s.T = x :: t ∧ t.length + 1 = s.n) :
    WS Try.prog (frameN Try.f4 3) 1 [.c (k1 (k1 (k2 (k1 (k2 (k2 (k2 (k2 (k2 (k2 (k2 (kb Try.f4))))))))))))] (slt (SSp size l c ask (i, s, b))) (mem 0 (MMp l (i, s, b))) (PostP size l c ask (i, s, b)) := by
  have hi : i < l.length := (List.getElem?_eq_some_iff.1 hx).1
  have hle := H.le
  have hL := H.len
  subst ho
  have D := delete_no H (by omega) hg
  obtain ⟨x0, t0, hr0, ht0⟩ := hrow
  have hne : 0 < s.n := by omega
  have A1 := asked_walk true lba H h2 hne
  have A2 := asked_walk true ask H h2 hne
  have B := whole_walk true H h2 hne
  have K := at_walk (runsT s.T) true lba (by rw [runsT_len]; simp only [TS.n] at hle; omega)
  rw [runsT_len, show s.T.ids.length = s.n from rfl] at K
  simp only [asM, hr0] at A1 A2 B
  simp only [roW, hr0] at K
  have hk : atL lba (runsT s.T) 0 = -1 := atL_no hg
  rw [hr0] at hk
  rw [hk] at K
  simp only [SSp, MMp, MP, wV, bW, hr0, ht0]
  iterate 2 refine jq ?_
  refine jg ?_
  iterate 3 refine jo ?_
  refine jDT ?_
  refine je ?_
  refine WS.pcondT rfl rfl ?_
  refine WS.pskip rfl ?_
  refine jq ?_
  refine WS.pblock rfl ?_
  refine jq ?_
  refine jg ?_
  iterate 2 refine jo ?_
  refine jI ?_
  refine WS.poA (tb := tb) rfl rfl rfl rfl (step_R rfl (evR_loads rfl rfl rfl rfl rfl (by exact (cellsR_part0 (R := rwAct) hx (by exact Nat.le_of_ble_eq_true rfl))) (by exact rfl))) (by simp only [List.drop_zero, List.drop_succ_cons, List.take_succ_cons, List.take_zero, rwPl, rwRn, rwVw, rwAct]; exact rfl) ?_
  refine jn ?_
  refine js ?_
  refine je ?_
  refine jq ?_
  refine jg ?_
  refine jP ?_
  refine jo ?_
  refine jP ?_
  refine jo ?_
  refine jP ?_
  refine jo ?_
  refine WS.poA (tb := tb) rfl rfl rfl rfl rfl (by simp only [vcells, setL, ll, nl, nz, Nat.reduceAdd, Nat.reduceMul, Int.reduceToNat]; exact rfl) ?_
  refine jn ?_
  refine js ?_
  refine je ?_
  refine jq ?_
  refine jg ?_
  refine jo ?_
  refine jP ?_
  refine jo ?_
  refine jc [4] K (by simp [jOb, tsR, trR, arR, ht0, tsM, trM, arM]) (by simp [jEb, jOb, jMb, mapL_cellsR, okL_cellsR, tsR, trR, arR, ht0, tsM, trM, arM]) ?_; rintro _ _ ⟨rfl, rfl⟩ -; simp only [jPg, jMb, ll, Nat.reduceAdd, Nat.reduceLT, Nat.zero_add, if_true, if_false, Nat.reduceSub, reduceIte, mapL_cellsR, Nat.lt_irrefl, Nat.not_lt_zero, Nat.zero_lt_succ, Nat.lt_add_one, tsR, trR, arR, ht0, tsM, trM, arM]
  refine jo ?_
  refine je ?_
  iterate 2 refine jq ?_
  refine jg ?_
  refine jP ?_
  refine jo ?_
  refine je ?_
  refine WS.pblock rfl ?_
  refine jq ?_
  refine jg ?_
  refine jB false ?_
  refine jo ?_
  refine je ?_
  refine WS.pcondF rfl rfl ?_
  refine jq ?_
  refine jg ?_
  refine jB true ?_
  refine jo ?_
  refine je ?_
  refine WS.pcondT rfl rfl ?_
  refine jq ?_
  refine jg ?_
  refine jo ?_
  refine jP ?_
  refine jo ?_
  refine jc [1,2,3] D (by simp [jOb, tsR, trR, arR, ht0, tsM, trM, arM]) (by simp [jEb, jOb, jMb, mapL_cellsR, okL_cellsR, tsR, trR, arR, ht0, tsM, trM, arM]) ?_; rintro _ _ ⟨rfl, rfl⟩ -; simp only [jPg, jMb, ll, Nat.reduceAdd, Nat.reduceLT, Nat.zero_add, if_true, if_false, Nat.reduceSub, reduceIte, mapL_cellsR, Nat.lt_irrefl, Nat.not_lt_zero, Nat.zero_lt_succ, Nat.lt_add_one, tsR, trR, arR, ht0, tsM, trM, arM]
  refine jo ?_
  refine je ?_
  iterate 2 refine jq ?_
  refine jg ?_
  refine jo ?_
  refine jB false ?_
  refine jo ?_
  refine jB false ?_
  refine jB false ?_
  iterate 2 refine jo ?_
  refine jB true ?_
  iterate 2 refine jo ?_
  refine jB false ?_
  iterate 2 refine jo ?_
  refine je ?_
  refine WS.pcondF rfl rfl ?_
  refine WS.pskip rfl ?_
  refine jq ?_
  refine jg ?_
  refine jo ?_
  refine jB false ?_
  refine je ?_
  refine WS.pcondF rfl rfl ?_
  refine WS.pskip rfl ?_
  refine jq ?_
  refine jg ?_
  iterate 2 refine jo ?_
  refine jP ?_
  refine jo ?_
  refine jc [1,2,3,4] A1 (by simp [jOb, tsR, trR, arR, ht0, tsM, trM, arM]) (by simp [jEb, jOb, jMb, mapL_cellsR, okL_cellsR, tsR, trR, arR, ht0, tsM, trM, arM]) ?_; rintro _ _ ⟨rfl, rfl⟩ -; simp only [jPg, jMb, ll, Nat.reduceAdd, Nat.reduceLT, Nat.zero_add, if_true, if_false, Nat.reduceSub, reduceIte, mapL_cellsR, Nat.lt_irrefl, Nat.not_lt_zero, Nat.zero_lt_succ, Nat.lt_add_one, tsR, trR, arR, ht0, tsM, trM, arM]
  refine jB false ?_
  iterate 4 refine jo ?_
  refine jc [1,2,3,4] A2 (by simp [jOb, tsR, trR, arR, ht0, tsM, trM, arM]) (by simp [jEb, jOb, jMb, mapL_cellsR, okL_cellsR, tsR, trR, arR, ht0, tsM, trM, arM]) ?_; rintro _ _ ⟨rfl, rfl⟩ -; simp only [jPg, jMb, ll, Nat.reduceAdd, Nat.reduceLT, Nat.zero_add, if_true, if_false, Nat.reduceSub, reduceIte, mapL_cellsR, Nat.lt_irrefl, Nat.not_lt_zero, Nat.zero_lt_succ, Nat.lt_add_one, tsR, trR, arR, ht0, tsM, trM, arM]
  refine jB false ?_
  iterate 5 refine jo ?_
  refine jc [1,2,3,4] B (by simp [jOb, tsR, trR, arR, ht0, tsM, trM, arM]) (by simp [jEb, jOb, jMb, mapL_cellsR, okL_cellsR, tsR, trR, arR, ht0, tsM, trM, arM]) ?_; rintro _ _ ⟨rfl, rfl⟩ -; simp only [jPg, jMb, ll, Nat.reduceAdd, Nat.reduceLT, Nat.zero_add, if_true, if_false, Nat.reduceSub, reduceIte, mapL_cellsR, Nat.lt_irrefl, Nat.not_lt_zero, Nat.zero_lt_succ, Nat.lt_add_one, tsR, trR, arR, ht0, tsM, trM, arM]
  refine jB false ?_
  refine jo ?_
  refine je ?_
  refine WS.pcondF rfl rfl ?_
  refine WS.pskip rfl ?_
  refine jg ?_
  refine jo ?_
  refine jW ?_
  refine jo ?_
  refine je ?_
  refine WS.nil ?_
  exact ⟨(i + 1, s, b), ⟨hi, H⟩, by simp only; omega, (jSn [0,1,2,3,4] (by simp [jVb, jOb, jMb, mapL_cellsR, okL_cellsR, SSp, MMp, MP, wV, bW, hr0, ht0, tsM, trM, arM]) (by simp only [jSl, jOb, jMb, Nat.reduceAdd, Nat.reduceLT, SSp, MMp, MP, wV, bW, hr0, ht0, tsM, trM, arM] <;> exact jClo))⟩
theorem pl_chgno_row (size : Nat) (l : List Act) (c i : Nat) (ask : Int) (s : TS) (op lba len phys : Int) (b : Bool) (H : TOk size s) (hl : l.length ≤ 120) (h1 : 1 ≤ size) (h2 : size ≤ 60) (hx : l[i]? = some ⟨op, lba, len, phys⟩) (ho : op = 2) (hg : getL lba s.T.ino = none) (hrow : ∃ x t, runsT s.T = x :: t ∧ t.length + 1 = s.n) :
    WS Try.prog (frameN Try.f4 3) 1 [.c (k1 (k1 (k2 (k1 (k2 (k2 (k2 (k2 (k2 (k2 (k2 (kb Try.f4))))))))))))] (slt (SSp size l c ask (i, s, b))) (mem 0 (MMp l (i, s, b))) (PostP size l c ask (i, s, b)) := by
  have hi : i < l.length := (List.getElem?_eq_some_iff.1 hx).1
  have hle := H.le
  have hL := H.len
  subst ho
  have D := change_no s.ps s.fr s.n s.n lba len phys s.T H.rep (fid_none H hg) (by omega)
  obtain ⟨x0, t0, hr0, ht0⟩ := hrow
  have hne : 0 < s.n := by omega
  have A1 := asked_walk true lba H h2 hne
  have A2 := asked_walk true ask H h2 hne
  have B := whole_walk true H h2 hne
  have K := at_walk (runsT s.T) true lba (by rw [runsT_len]; simp only [TS.n] at hle; omega)
  rw [runsT_len, show s.T.ids.length = s.n from rfl] at K
  simp only [asM, hr0] at A1 A2 B
  simp only [roW, hr0] at K
  have hk : atL lba (runsT s.T) 0 = -1 := atL_no hg
  rw [hr0] at hk
  rw [hk] at K
  simp only [SSp, MMp, MP, wV, bW, hr0, ht0]
  iterate 2 refine jq ?_
  refine jg ?_
  iterate 3 refine jo ?_
  refine jDT ?_
  refine je ?_
  refine WS.pcondT rfl rfl ?_
  refine WS.pskip rfl ?_
  refine jq ?_
  refine WS.pblock rfl ?_
  refine jq ?_
  refine jg ?_
  iterate 2 refine jo ?_
  refine jI ?_
  refine WS.poA (tb := tb) rfl rfl rfl rfl (step_R rfl (evR_loads rfl rfl rfl rfl rfl (by exact (cellsR_part0 (R := rwAct) hx (by exact Nat.le_of_ble_eq_true rfl))) (by exact rfl))) (by simp only [List.drop_zero, List.drop_succ_cons, List.take_succ_cons, List.take_zero, rwPl, rwRn, rwVw, rwAct]; exact rfl) ?_
  refine jn ?_
  refine js ?_
  refine je ?_
  refine jq ?_
  refine jg ?_
  refine jP ?_
  refine jo ?_
  refine jP ?_
  refine jo ?_
  refine jP ?_
  refine jo ?_
  refine WS.poA (tb := tb) rfl rfl rfl rfl rfl (by simp only [vcells, setL, ll, nl, nz, Nat.reduceAdd, Nat.reduceMul, Int.reduceToNat]; exact rfl) ?_
  refine jn ?_
  refine js ?_
  refine je ?_
  refine jq ?_
  refine jg ?_
  refine jo ?_
  refine jP ?_
  refine jo ?_
  refine jc [4] K (by simp [jOb, tsR, trR, arR, ht0, tsM, trM, arM]) (by simp [jEb, jOb, jMb, mapL_cellsR, okL_cellsR, tsR, trR, arR, ht0, tsM, trM, arM]) ?_; rintro _ _ ⟨rfl, rfl⟩ -; simp only [jPg, jMb, ll, Nat.reduceAdd, Nat.reduceLT, Nat.zero_add, if_true, if_false, Nat.reduceSub, reduceIte, mapL_cellsR, Nat.lt_irrefl, Nat.not_lt_zero, Nat.zero_lt_succ, Nat.lt_add_one, tsR, trR, arR, ht0, tsM, trM, arM]
  refine jo ?_
  refine je ?_
  iterate 2 refine jq ?_
  refine jg ?_
  refine jP ?_
  refine jo ?_
  refine je ?_
  refine WS.pblock rfl ?_
  refine jq ?_
  refine jg ?_
  refine jB false ?_
  refine jo ?_
  refine je ?_
  refine WS.pcondF rfl rfl ?_
  refine jq ?_
  refine jg ?_
  refine jB false ?_
  refine jo ?_
  refine je ?_
  refine WS.pcondF rfl rfl ?_
  refine jq ?_
  refine jg ?_
  refine jB true ?_
  refine jo ?_
  refine je ?_
  refine WS.pcondT rfl rfl ?_
  refine jq ?_
  refine jg ?_
  refine jo ?_
  refine WS.poA (tb := tb) rfl rfl rfl rfl rfl (by simp only [List.drop_zero, List.drop_succ_cons, List.take_succ_cons, List.take_zero, rwPl, rwRn, rwVw, rwAct]; exact rfl) ?_
  refine jc [1,2,3] D (by simp [jOb, tsR, trR, arR, ht0, tsM, trM, arM]) (by simp [jEb, jOb, jMb, mapL_cellsR, okL_cellsR, tsR, trR, arR, ht0, tsM, trM, arM]) ?_; rintro _ _ ⟨rfl, rfl⟩ -; simp only [jPg, jMb, ll, Nat.reduceAdd, Nat.reduceLT, Nat.zero_add, if_true, if_false, Nat.reduceSub, reduceIte, mapL_cellsR, Nat.lt_irrefl, Nat.not_lt_zero, Nat.zero_lt_succ, Nat.lt_add_one, tsR, trR, arR, ht0, tsM, trM, arM]
  refine jo ?_
  refine je ?_
  iterate 2 refine jq ?_
  refine jg ?_
  refine jo ?_
  refine jB false ?_
  refine jo ?_
  refine jB false ?_
  refine jB false ?_
  iterate 2 refine jo ?_
  refine jB true ?_
  iterate 2 refine jo ?_
  refine jB false ?_
  iterate 2 refine jo ?_
  refine je ?_
  refine WS.pcondF rfl rfl ?_
  refine WS.pskip rfl ?_
  refine jq ?_
  refine jg ?_
  refine jo ?_
  refine jB false ?_
  refine je ?_
  refine WS.pcondF rfl rfl ?_
  refine WS.pskip rfl ?_
  refine jq ?_
  refine jg ?_
  iterate 2 refine jo ?_
  refine jP ?_
  refine jo ?_
  refine jc [1,2,3,4] A1 (by simp [jOb, tsR, trR, arR, ht0, tsM, trM, arM]) (by simp [jEb, jOb, jMb, mapL_cellsR, okL_cellsR, tsR, trR, arR, ht0, tsM, trM, arM]) ?_; rintro _ _ ⟨rfl, rfl⟩ -; simp only [jPg, jMb, ll, Nat.reduceAdd, Nat.reduceLT, Nat.zero_add, if_true, if_false, Nat.reduceSub, reduceIte, mapL_cellsR, Nat.lt_irrefl, Nat.not_lt_zero, Nat.zero_lt_succ, Nat.lt_add_one, tsR, trR, arR, ht0, tsM, trM, arM]
  refine jB false ?_
  iterate 4 refine jo ?_
  refine jc [1,2,3,4] A2 (by simp [jOb, tsR, trR, arR, ht0, tsM, trM, arM]) (by simp [jEb, jOb, jMb, mapL_cellsR, okL_cellsR, tsR, trR, arR, ht0, tsM, trM, arM]) ?_; rintro _ _ ⟨rfl, rfl⟩ -; simp only [jPg, jMb, ll, Nat.reduceAdd, Nat.reduceLT, Nat.zero_add, if_true, if_false, Nat.reduceSub, reduceIte, mapL_cellsR, Nat.lt_irrefl, Nat.not_lt_zero, Nat.zero_lt_succ, Nat.lt_add_one, tsR, trR, arR, ht0, tsM, trM, arM]
  refine jB false ?_
  iterate 5 refine jo ?_
  refine jc [1,2,3,4] B (by simp [jOb, tsR, trR, arR, ht0, tsM, trM, arM]) (by simp [jEb, jOb, jMb, mapL_cellsR, okL_cellsR, tsR, trR, arR, ht0, tsM, trM, arM]) ?_; rintro _ _ ⟨rfl, rfl⟩ -; simp only [jPg, jMb, ll, Nat.reduceAdd, Nat.reduceLT, Nat.zero_add, if_true, if_false, Nat.reduceSub, reduceIte, mapL_cellsR, Nat.lt_irrefl, Nat.not_lt_zero, Nat.zero_lt_succ, Nat.lt_add_one, tsR, trR, arR, ht0, tsM, trM, arM]
  refine jB false ?_
  refine jo ?_
  refine je ?_
  refine WS.pcondF rfl rfl ?_
  refine WS.pskip rfl ?_
  refine jg ?_
  refine jo ?_
  refine jW ?_
  refine jo ?_
  refine je ?_
  refine WS.nil ?_
  exact ⟨(i + 1, s, b), ⟨hi, H⟩, by simp only; omega, (jSn [0,1,2,3,4] (by simp [jVb, jOb, jMb, mapL_cellsR, okL_cellsR, SSp, MMp, MP, wV, bW, hr0, ht0, tsM, trM, arM]) (by simp only [jSl, jOb, jMb, Nat.reduceAdd, Nat.reduceLT, SSp, MMp, MP, wV, bW, hr0, ht0, tsM, trM, arM] <;> exact jClo))⟩
theorem pl_insdup_row (size : Nat) (l : List Act) (c i : Nat) (ask : Int) (s : TS) (op lba len phys : Int) (b : Bool) (H : TOk size s) (hl : l.length ≤ 120) (h1 : 1 ≤ size) (h2 : size ≤ 60) (hx : l[i]? = some ⟨op, lba, len, phys⟩) (ho : op = 0) (hg : (getL lba s.T.ino).isSome = true) (hrow : ∃ x t, runsT s.T = x :: t ∧ t.length + 1 = s.n) :
    WS Try.prog (frameN Try.f4 3) 1 [.c (k1 (k1 (k2 (k1 (k2 (k2 (k2 (k2 (k2 (k2 (k2 (kb Try.f4))))))))))))] (slt (SSp size l c ask (i, s, b))) (mem 0 (MMp l (i, s, b))) (PostP size l c ask (i, s, b)) := by
  have hi : i < l.length := (List.getElem?_eq_some_iff.1 hx).1
  have hle := H.le
  have hL := H.len
  subst ho
  have D := insert_dup len phys H (by omega) hg
  obtain ⟨x0, t0, hr0, ht0⟩ := hrow
  have hne : 0 < s.n := by omega
  have A1 := asked_walk true lba H h2 hne
  have A2 := asked_walk true ask H h2 hne
  have B := whole_walk true H h2 hne
  have K := at_walk (runsT s.T) true lba (by rw [runsT_len]; simp only [TS.n] at hle; omega)
  rw [runsT_len, show s.T.ids.length = s.n from rfl] at K
  simp only [asM, hr0] at A1 A2 B
  simp only [roW, hr0] at K
  obtain ⟨j, x, hk, hjx, hxa⟩ := atL_yes hg
  rw [hr0] at hk hjx
  rw [hk] at K
  simp only [SSp, MMp, MP, wV, bW, hr0, ht0]
  iterate 2 refine jq ?_
  refine jg ?_
  iterate 3 refine jo ?_
  refine jDT ?_
  refine je ?_
  refine WS.pcondT rfl rfl ?_
  refine WS.pskip rfl ?_
  refine jq ?_
  refine WS.pblock rfl ?_
  refine jq ?_
  refine jg ?_
  iterate 2 refine jo ?_
  refine jI ?_
  refine WS.poA (tb := tb) rfl rfl rfl rfl (step_R rfl (evR_loads rfl rfl rfl rfl rfl (by exact (cellsR_part0 (R := rwAct) hx (by exact Nat.le_of_ble_eq_true rfl))) (by exact rfl))) (by simp only [List.drop_zero, List.drop_succ_cons, List.take_succ_cons, List.take_zero, rwPl, rwRn, rwVw, rwAct]; exact rfl) ?_
  refine jn ?_
  refine js ?_
  refine je ?_
  refine jq ?_
  refine jg ?_
  refine jP ?_
  refine jo ?_
  refine jP ?_
  refine jo ?_
  refine jP ?_
  refine jo ?_
  refine WS.poA (tb := tb) rfl rfl rfl rfl rfl (by simp only [vcells, setL, ll, nl, nz, Nat.reduceAdd, Nat.reduceMul, Int.reduceToNat]; exact rfl) ?_
  refine jn ?_
  refine js ?_
  refine je ?_
  refine jq ?_
  refine jg ?_
  refine jo ?_
  refine jP ?_
  refine jo ?_
  refine jc [4] K (by simp [jOb, tsR, trR, arR, ht0, tsM, trM, arM]) (by simp [jEb, jOb, jMb, mapL_cellsR, okL_cellsR, tsR, trR, arR, ht0, tsM, trM, arM]) ?_; rintro _ _ ⟨rfl, rfl⟩ -; simp only [jPg, jMb, ll, Nat.reduceAdd, Nat.reduceLT, Nat.zero_add, if_true, if_false, Nat.reduceSub, reduceIte, mapL_cellsR, Nat.lt_irrefl, Nat.not_lt_zero, Nat.zero_lt_succ, Nat.lt_add_one, tsR, trR, arR, ht0, tsM, trM, arM]
  refine jo ?_
  refine je ?_
  iterate 2 refine jq ?_
  refine jg ?_
  refine jP ?_
  refine jo ?_
  refine je ?_
  refine WS.pblock rfl ?_
  refine jq ?_
  refine jg ?_
  refine jB true ?_
  refine jo ?_
  refine je ?_
  refine WS.pcondT rfl rfl ?_
  refine jq ?_
  refine jg ?_
  refine jo ?_
  refine WS.poA (tb := tb) rfl rfl rfl rfl rfl (by simp only [List.drop_zero, List.drop_succ_cons, List.take_succ_cons, List.take_zero, rwPl, rwRn, rwVw, rwAct]; exact rfl) ?_
  refine jc [1,2,3] D (by simp [jOb, tsR, trR, arR, ht0, tsM, trM, arM]) (by simp [jEb, jOb, jMb, mapL_cellsR, okL_cellsR, tsR, trR, arR, ht0, tsM, trM, arM]) ?_; rintro _ _ ⟨rfl, rfl⟩ -; simp only [jPg, jMb, ll, Nat.reduceAdd, Nat.reduceLT, Nat.zero_add, if_true, if_false, Nat.reduceSub, reduceIte, mapL_cellsR, Nat.lt_irrefl, Nat.not_lt_zero, Nat.zero_lt_succ, Nat.lt_add_one, tsR, trR, arR, ht0, tsM, trM, arM]
  refine jo ?_
  refine je ?_
  iterate 2 refine jq ?_
  refine jg ?_
  refine jo ?_
  refine jB true ?_
  iterate 2 refine jo ?_
  refine jB false ?_
  iterate 3 refine jo ?_
  refine jB false ?_
  refine jo ?_
  iterate 4 refine jN ?_
  iterate 2 refine jo ?_
  iterate 2 refine jN ?_
  iterate 4 refine jo ?_
  refine jB false ?_
  refine jo ?_
  iterate 4 refine jN ?_
  iterate 2 refine jo ?_
  iterate 2 refine jN ?_
  iterate 2 refine jo ?_
  refine je ?_
  refine WS.pcondF rfl rfl ?_
  refine WS.pskip rfl ?_
  refine jq ?_
  refine jg ?_
  refine jo ?_
  refine jB false ?_
  refine je ?_
  refine WS.pcondF rfl rfl ?_
  refine WS.pskip rfl ?_
  refine jq ?_
  refine jg ?_
  iterate 2 refine jo ?_
  refine jP ?_
  refine jo ?_
  refine jc [1,2,3,4] A1 (by simp [jOb, tsR, trR, arR, ht0, tsM, trM, arM]) (by simp [jEb, jOb, jMb, mapL_cellsR, okL_cellsR, tsR, trR, arR, ht0, tsM, trM, arM]) ?_; rintro _ _ ⟨rfl, rfl⟩ -; simp only [jPg, jMb, ll, Nat.reduceAdd, Nat.reduceLT, Nat.zero_add, if_true, if_false, Nat.reduceSub, reduceIte, mapL_cellsR, Nat.lt_irrefl, Nat.not_lt_zero, Nat.zero_lt_succ, Nat.lt_add_one, tsR, trR, arR, ht0, tsM, trM, arM]
  refine jB false ?_
  iterate 4 refine jo ?_
  refine jc [1,2,3,4] A2 (by simp [jOb, tsR, trR, arR, ht0, tsM, trM, arM]) (by simp [jEb, jOb, jMb, mapL_cellsR, okL_cellsR, tsR, trR, arR, ht0, tsM, trM, arM]) ?_; rintro _ _ ⟨rfl, rfl⟩ -; simp only [jPg, jMb, ll, Nat.reduceAdd, Nat.reduceLT, Nat.zero_add, if_true, if_false, Nat.reduceSub, reduceIte, mapL_cellsR, Nat.lt_irrefl, Nat.not_lt_zero, Nat.zero_lt_succ, Nat.lt_add_one, tsR, trR, arR, ht0, tsM, trM, arM]
  refine jB false ?_
  iterate 5 refine jo ?_
  refine jc [1,2,3,4] B (by simp [jOb, tsR, trR, arR, ht0, tsM, trM, arM]) (by simp [jEb, jOb, jMb, mapL_cellsR, okL_cellsR, tsR, trR, arR, ht0, tsM, trM, arM]) ?_; rintro _ _ ⟨rfl, rfl⟩ -; simp only [jPg, jMb, ll, Nat.reduceAdd, Nat.reduceLT, Nat.zero_add, if_true, if_false, Nat.reduceSub, reduceIte, mapL_cellsR, Nat.lt_irrefl, Nat.not_lt_zero, Nat.zero_lt_succ, Nat.lt_add_one, tsR, trR, arR, ht0, tsM, trM, arM]
  refine jB false ?_
  refine jo ?_
  refine je ?_
  refine WS.pcondF rfl rfl ?_
  refine WS.pskip rfl ?_
  refine jg ?_
  refine jo ?_
  refine jW ?_
  refine jo ?_
  refine je ?_
  refine WS.nil ?_
  exact ⟨(i + 1, s, b), ⟨hi, H⟩, by simp only; omega, (jSn [0,1,2,3,4] (by simp [jVb, jOb, jMb, mapL_cellsR, okL_cellsR, SSp, MMp, MP, wV, bW, hr0, ht0, tsM, trM, arM]) (by simp only [jSl, jOb, jMb, Nat.reduceAdd, Nat.reduceLT, SSp, MMp, MP, wV, bW, hr0, ht0, tsM, trM, arM] <;> exact jClo))⟩
theorem pl_insfull_row (size : Nat) (l : List Act) (c i : Nat) (ask : Int) (s : TS) (op lba len phys : Int) (b : Bool) (H : TOk size s) (hl : l.length ≤ 120) (h1 : 1 ≤ size) (h2 : size ≤ 60) (hx : l[i]? = some ⟨op, lba, len, phys⟩) (ho : op = 0) (hg : getL lba s.T.ino = none) (hf : s.n = size) (hrow : ∃ x t, runsT s.T = x :: t ∧ t.length + 1 = s.n) :
    WS Try.prog (frameN Try.f4 3) 1 [.c (k1 (k1 (k2 (k1 (k2 (k2 (k2 (k2 (k2 (k2 (k2 (kb Try.f4))))))))))))] (slt (SSp size l c ask (i, s, b))) (mem 0 (MMp l (i, s, b))) (PostP size l c ask (i, s, b)) := by
  have hi : i < l.length := (List.getElem?_eq_some_iff.1 hx).1
  have hle := H.le
  have hL := H.len
  subst ho
  have D := insert_full len phys H (by omega) hf hg
  obtain ⟨x0, t0, hr0, ht0⟩ := hrow
  have hne : 0 < s.n := by omega
  have A1 := asked_walk true lba H h2 hne
  have A2 := asked_walk true ask H h2 hne
  have B := whole_walk true H h2 hne
  have K := at_walk (runsT s.T) true lba (by rw [runsT_len]; simp only [TS.n] at hle; omega)
  rw [runsT_len, show s.T.ids.length = s.n from rfl] at K
  simp only [asM, hr0] at A1 A2 B
  simp only [roW, hr0] at K
  have hk : atL lba (runsT s.T) 0 = -1 := atL_no hg
  rw [hr0] at hk
  rw [hk] at K
  simp only [SSp, MMp, MP, wV, bW, hr0, ht0]
  iterate 2 refine jq ?_
  refine jg ?_
  iterate 3 refine jo ?_
  refine jDT ?_
  refine je ?_
  refine WS.pcondT rfl rfl ?_
  refine WS.pskip rfl ?_
  refine jq ?_
  refine WS.pblock rfl ?_
  refine jq ?_
  refine jg ?_
  iterate 2 refine jo ?_
  refine jI ?_
  refine WS.poA (tb := tb) rfl rfl rfl rfl (step_R rfl (evR_loads rfl rfl rfl rfl rfl (by exact (cellsR_part0 (R := rwAct) hx (by exact Nat.le_of_ble_eq_true rfl))) (by exact rfl))) (by simp only [List.drop_zero, List.drop_succ_cons, List.take_succ_cons, List.take_zero, rwPl, rwRn, rwVw, rwAct]; exact rfl) ?_
  refine jn ?_
  refine js ?_
  refine je ?_
  refine jq ?_
  refine jg ?_
  refine jP ?_
  refine jo ?_
  refine jP ?_
  refine jo ?_
  refine jP ?_
  refine jo ?_
  refine WS.poA (tb := tb) rfl rfl rfl rfl rfl (by simp only [vcells, setL, ll, nl, nz, Nat.reduceAdd, Nat.reduceMul, Int.reduceToNat]; exact rfl) ?_
  refine jn ?_
  refine js ?_
  refine je ?_
  refine jq ?_
  refine jg ?_
  refine jo ?_
  refine jP ?_
  refine jo ?_
  refine jc [4] K (by simp [jOb, tsR, trR, arR, ht0, tsM, trM, arM]) (by simp [jEb, jOb, jMb, mapL_cellsR, okL_cellsR, tsR, trR, arR, ht0, tsM, trM, arM]) ?_; rintro _ _ ⟨rfl, rfl⟩ -; simp only [jPg, jMb, ll, Nat.reduceAdd, Nat.reduceLT, Nat.zero_add, if_true, if_false, Nat.reduceSub, reduceIte, mapL_cellsR, Nat.lt_irrefl, Nat.not_lt_zero, Nat.zero_lt_succ, Nat.lt_add_one, tsR, trR, arR, ht0, tsM, trM, arM]
  refine jo ?_
  refine je ?_
  iterate 2 refine jq ?_
  refine jg ?_
  refine jP ?_
  refine jo ?_
  refine je ?_
  refine WS.pblock rfl ?_
  refine jq ?_
  refine jg ?_
  refine jB true ?_
  refine jo ?_
  refine je ?_
  refine WS.pcondT rfl rfl ?_
  refine jq ?_
  refine jg ?_
  refine jo ?_
  refine WS.poA (tb := tb) rfl rfl rfl rfl rfl (by simp only [List.drop_zero, List.drop_succ_cons, List.take_succ_cons, List.take_zero, rwPl, rwRn, rwVw, rwAct]; exact rfl) ?_
  refine jc [1,2,3] D (by simp [jOb, tsR, trR, arR, ht0, tsM, trM, arM]) (by simp [jEb, jOb, jMb, mapL_cellsR, okL_cellsR, tsR, trR, arR, ht0, tsM, trM, arM]) ?_; rintro _ _ ⟨rfl, rfl⟩ -; simp only [jPg, jMb, ll, Nat.reduceAdd, Nat.reduceLT, Nat.zero_add, if_true, if_false, Nat.reduceSub, reduceIte, mapL_cellsR, Nat.lt_irrefl, Nat.not_lt_zero, Nat.zero_lt_succ, Nat.lt_add_one, tsR, trR, arR, ht0, tsM, trM, arM]
  refine jo ?_
  refine je ?_
  iterate 2 refine jq ?_
  refine jg ?_
  refine jo ?_
  refine jB false ?_
  refine jo ?_
  iterate 2 refine jN ?_
  iterate 3 refine jo ?_
  refine jB true ?_
  iterate 4 refine jo ?_
  refine jDT ?_
  iterate 3 refine jo ?_
  refine jB false ?_
  iterate 4 refine jo ?_
  refine jB true ?_
  iterate 4 refine jo ?_
  refine jDF ?_
  iterate 2 refine jo ?_
  iterate 2 refine jN ?_
  iterate 2 refine jo ?_
  refine je ?_
  refine WS.pcondF rfl rfl ?_
  refine WS.pskip rfl ?_
  refine jq ?_
  refine jg ?_
  refine jo ?_
  refine jB false ?_
  refine je ?_
  refine WS.pcondF rfl rfl ?_
  refine WS.pskip rfl ?_
  refine jq ?_
  refine jg ?_
  iterate 2 refine jo ?_
  refine jP ?_
  refine jo ?_
  refine jc [1,2,3,4] A1 (by simp [jOb, tsR, trR, arR, ht0, tsM, trM, arM]) (by simp [jEb, jOb, jMb, mapL_cellsR, okL_cellsR, tsR, trR, arR, ht0, tsM, trM, arM]) ?_; rintro _ _ ⟨rfl, rfl⟩ -; simp only [jPg, jMb, ll, Nat.reduceAdd, Nat.reduceLT, Nat.zero_add, if_true, if_false, Nat.reduceSub, reduceIte, mapL_cellsR, Nat.lt_irrefl, Nat.not_lt_zero, Nat.zero_lt_succ, Nat.lt_add_one, tsR, trR, arR, ht0, tsM, trM, arM]
  refine jB false ?_
  iterate 4 refine jo ?_
  refine jc [1,2,3,4] A2 (by simp [jOb, tsR, trR, arR, ht0, tsM, trM, arM]) (by simp [jEb, jOb, jMb, mapL_cellsR, okL_cellsR, tsR, trR, arR, ht0, tsM, trM, arM]) ?_; rintro _ _ ⟨rfl, rfl⟩ -; simp only [jPg, jMb, ll, Nat.reduceAdd, Nat.reduceLT, Nat.zero_add, if_true, if_false, Nat.reduceSub, reduceIte, mapL_cellsR, Nat.lt_irrefl, Nat.not_lt_zero, Nat.zero_lt_succ, Nat.lt_add_one, tsR, trR, arR, ht0, tsM, trM, arM]
  refine jB false ?_
  iterate 5 refine jo ?_
  refine jc [1,2,3,4] B (by simp [jOb, tsR, trR, arR, ht0, tsM, trM, arM]) (by simp [jEb, jOb, jMb, mapL_cellsR, okL_cellsR, tsR, trR, arR, ht0, tsM, trM, arM]) ?_; rintro _ _ ⟨rfl, rfl⟩ -; simp only [jPg, jMb, ll, Nat.reduceAdd, Nat.reduceLT, Nat.zero_add, if_true, if_false, Nat.reduceSub, reduceIte, mapL_cellsR, Nat.lt_irrefl, Nat.not_lt_zero, Nat.zero_lt_succ, Nat.lt_add_one, tsR, trR, arR, ht0, tsM, trM, arM]
  refine jB false ?_
  refine jo ?_
  refine je ?_
  refine WS.pcondF rfl rfl ?_
  refine WS.pskip rfl ?_
  refine jg ?_
  refine jo ?_
  refine jW ?_
  refine jo ?_
  refine je ?_
  refine WS.nil ?_
  exact ⟨(i + 1, s, b), ⟨hi, H⟩, by simp only; omega, (jSn [0,1,2,3,4] (by simp [jVb, jOb, jMb, mapL_cellsR, okL_cellsR, SSp, MMp, MP, wV, bW, hr0, ht0, tsM, trM, arM]) (by simp only [jSl, jOb, jMb, Nat.reduceAdd, Nat.reduceLT, SSp, MMp, MP, wV, bW, hr0, ht0, tsM, trM, arM] <;> exact jClo))⟩
end Go.Proofs.Ytpogfelbimcglaa.Am

