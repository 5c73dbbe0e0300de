/- A change that finds no room, walked. Conditions: those of each theorem. -/
import Derived.Test.YtdeeancepelkiaaRu4
namespace Go.Proofs.Ytdeeancepelkiaa.Am
open Go.Proofs
set_option maxRecDepth 1000000
set_option maxHeartbeats 4000000
set_option linter.unusedSimpArgs false
set_option linter.unusedVariables false
def rmS (n : Nat) (s : TS) (old fresh : List Rn) : TS := fresh.foldl (fun s r => insK n s r.a r.b r.c) (old.foldl (fun s r => delK s r.a) s)
def delL (s : TS) (old : List Rn) : TS := old.foldl (fun s r => delK s r.a) s
def insL' (n : Nat) (s : TS) (l : List Rn) : TS := l.foldl (fun s r => insK n s r.a r.b r.c) s
theorem delL_ok {n : Nat} : ∀ (l : List Rn) {s : TS}, TOk n s → TOk n (delL s l)
  | [], _, h => h
  | r :: l, s, h => delL_ok l (delK_ok h)
theorem insL_ok {n : Nat} : ∀ (l : List Rn) {s : TS}, TOk n s → TOk n (insL' n s l)
  | [], _, h => h
  | r :: l, s, h => insL_ok l (insK_ok h)
theorem delL_app (s : TS) (a b : List Rn) : delL s (a ++ b) = delL (delL s a) b := List.foldl_append
theorem insL_app' (n : Nat) (s : TS) (a b : List Rn) : insL' n s (a ++ b) = insL' n (insL' n s a) b := List.foldl_append
theorem take_succ' {l : List Rn} {i : Nat} {x : Rn} (h : l[i]? = some x) : l.take (i + 1) = l.take i ++ [x] := by rw [List.take_add_one, h]; rfl
/-- May a change be made? -/
structure Chg (most : Nat) (s : TS) (old fresh : List Rn) : Prop where
  fits : s.n + fresh.length ≤ most + old.length
  gone : (delL s old).n + old.length = s.n
  come : ∀ i, i < fresh.length → ∀ r, fresh[i]? = some r → insE most (insL' most (delL s old) (fresh.take i)) r.a = 0
def chM (cap most : Nat) (s : TS) (a b : Option Blk) : List (Option Blk) := rmM cap most s ++ [a, b]
def sl0 (p : Nat) (l : List Rn) : V := slP p l
def bk0 (l : List Rn) : Option Blk := match l with
  | [] => none
  | x :: t => some ⟨cellsR rwRn (x :: t), 57, false⟩
theorem change_full (cap most : Nat) (s : TS) (old fresh : List Rn) (h : TOk most s) (hm : most ≤ 512) (ho : old.length ≤ 600) (hf : fresh.length ≤ 600) (hx : ¬ s.n + fresh.length ≤ most + old.length) :
    FM Try.prog 33 [.p (some (3,0)), slP 4 old, slP 5 fresh] (chM cap most s (bk0 old) (bk0 fresh)) (fun v M' => v = .i .i64 5 ∧ M' = chM cap most s (bk0 old) (bk0 fresh)) := by
  have L := tlen_walk s.ps s.fr s.n s.T.id s.n
  have hle := h.le
  rcases old with _ | ⟨o1, old⟩ <;> rcases fresh with _ | ⟨f1, fresh⟩
  · simp at hx; omega
  · simp only [List.length_cons, List.length_nil] at ho hf hx
    refine FM.pbodyV (tb := tb) (fn := Try.f33) rfl rfl ?_
    simp only [argS, Nat.reduceAdd, chM, rmM, tsM, trM, arM, bk0, slP, List.length_cons, List.length_nil, List.cons_append, List.nil_append]
    refine WS.pseq rfl ?_
    refine WS.pregion rfl ?_
    refine WS.po (tb := tb) rfl rfl rfl rfl rfl ?_
    refine WS.pend rfl ?_
    refine WS.pseq rfl ?_
    refine WS.pseq rfl ?_
    refine WS.pdrawQ (tb := tb) [0,1,2] L (by exact rfl) (by kernel_rfl) rfl (by kernel_rfl) (by kernel_rfl) (by (try simp only [mapL, mapV, ll]) <;> exact rfl) (by simp [okL, okV, trR, arR]) (by simp [embP, okL, okV, mapL, mapV, lockH, mem_next, mem_get, mem_ro, mapL_cellsR, okL_cellsR, trR, arR] <;> simp [LH.get, mem, memT, T.get, T.put, T.setF]; fail_if_success exfalso) rfl (by first | trivial | simp [okV, okL]) (fun _ => ?_)
    refine WD.p (tb := tb) rfl rfl rfl rfl rfl ?_
    refine WD.p (tb := tb) rfl rfl rfl rfl rfl ?_
    refine WD.pP (tb := tb) rfl rfl rfl rfl rfl (by simp only [nl, nz, Nat.reduceAdd, Nat.reduceMul, Int.reduceToNat]; exact rfl) ?_
    refine WD.r (tb := tb) rfl rfl rfl rfl rfl ?_
    refine WD.r (tb := tb) rfl rfl rfl rfl (evQ_call rfl rfl rfl rfl rfl) ?_
    refine WD.p (tb := tb) rfl rfl rfl rfl rfl ?_
    refine WD.p (tb := tb) rfl rfl rfl rfl rfl ?_
    refine WD.pW (tb := tb) rfl rfl rfl rfl rfl (by simp only [lo]; omega) (by simp only [Am.hi]; omega) ?_
    refine WD.p (tb := tb) rfl rfl rfl rfl rfl ?_
    refine WD.p (tb := tb) rfl rfl rfl rfl rfl ?_
    refine WD.pW (tb := tb) rfl rfl rfl rfl rfl (by simp only [lo]; omega) (by simp only [Am.hi]; omega) ?_
    refine WD.p (tb := tb) rfl rfl rfl rfl rfl ?_
    refine WD.p (tb := tb) rfl rfl rfl rfl rfl ?_
    refine WD.pP (tb := tb) rfl rfl rfl rfl rfl (by simp only [nl, nz, Nat.reduceAdd, Nat.reduceMul, Int.reduceToNat]; exact rfl) ?_
    refine WD.r (tb := tb) rfl rfl rfl rfl rfl ?_
    refine WD.pDT (tb := tb) rfl rfl rfl rfl rfl (by omega) ?_
    refine WD.fin rfl ?_
    refine WS.pcondT rfl rfl ?_
    refine WS.pseq rfl ?_
    refine WS.pregion rfl ?_
    refine WS.po (tb := tb) rfl rfl rfl rfl rfl ?_
    refine WS.pend rfl ?_
    refine WS.pret rfl ⟨.inr rfl, _, rfl, ?_⟩
    exact ⟨_, rfl, [0,1,2,3,4,5], chM cap most s none (bk0 (f1 :: fresh)), .i .i64 5, ⟨rfl, rfl, (by simp [viewP, okL, okV, mapL, mapV, mem_get, mapL_cellsR, okL_cellsR, chM, rmM, tsM, trM, arM, bk0]), rfl⟩, rfl, trivial, rfl, rfl⟩
  · simp only [List.length_cons, List.length_nil] at ho hf hx
    refine FM.pbodyV (tb := tb) (fn := Try.f33) rfl rfl ?_
    simp only [argS, Nat.reduceAdd, chM, rmM, tsM, trM, arM, bk0, slP, List.length_cons, List.length_nil, List.cons_append, List.nil_append]
    refine WS.pseq rfl ?_
    refine WS.pregion rfl ?_
    refine WS.po (tb := tb) rfl rfl rfl rfl rfl ?_
    refine WS.pend rfl ?_
    refine WS.pseq rfl ?_
    refine WS.pseq rfl ?_
    refine WS.pdrawQ (tb := tb) [0,1,2] L (by exact rfl) (by kernel_rfl) rfl (by kernel_rfl) (by kernel_rfl) (by (try simp only [mapL, mapV, ll]) <;> exact rfl) (by simp [okL, okV, trR, arR]) (by simp [embP, okL, okV, mapL, mapV, lockH, mem_next, mem_get, mem_ro, mapL_cellsR, okL_cellsR, trR, arR] <;> simp [LH.get, mem, memT, T.get, T.put, T.setF]; fail_if_success exfalso) rfl (by first | trivial | simp [okV, okL]) (fun _ => ?_)
    refine WD.p (tb := tb) rfl rfl rfl rfl rfl ?_
    refine WD.p (tb := tb) rfl rfl rfl rfl rfl ?_
    refine WD.pP (tb := tb) rfl rfl rfl rfl rfl (by simp only [nl, nz, Nat.reduceAdd, Nat.reduceMul, Int.reduceToNat]; exact rfl) ?_
    refine WD.r (tb := tb) rfl rfl rfl rfl rfl ?_
    refine WD.r (tb := tb) rfl rfl rfl rfl (evQ_call rfl rfl rfl rfl rfl) ?_
    refine WD.p (tb := tb) rfl rfl rfl rfl rfl ?_
    refine WD.p (tb := tb) rfl rfl rfl rfl rfl ?_
    refine WD.pW (tb := tb) rfl rfl rfl rfl rfl (by simp only [lo]; omega) (by simp only [Am.hi]; omega) ?_
    refine WD.p (tb := tb) rfl rfl rfl rfl rfl ?_
    refine WD.p (tb := tb) rfl rfl rfl rfl rfl ?_
    refine WD.pW (tb := tb) rfl rfl rfl rfl rfl (by simp only [lo]; omega) (by simp only [Am.hi]; omega) ?_
    refine WD.p (tb := tb) rfl rfl rfl rfl rfl ?_
    refine WD.p (tb := tb) rfl rfl rfl rfl rfl ?_
    refine WD.pP (tb := tb) rfl rfl rfl rfl rfl (by simp only [nl, nz, Nat.reduceAdd, Nat.reduceMul, Int.reduceToNat]; exact rfl) ?_
    refine WD.r (tb := tb) rfl rfl rfl rfl rfl ?_
    refine WD.pDT (tb := tb) rfl rfl rfl rfl rfl (by omega) ?_
    refine WD.fin rfl ?_
    refine WS.pcondT rfl rfl ?_
    refine WS.pseq rfl ?_
    refine WS.pregion rfl ?_
    refine WS.po (tb := tb) rfl rfl rfl rfl rfl ?_
    refine WS.pend rfl ?_
    refine WS.pret rfl ⟨.inr rfl, _, rfl, ?_⟩
    exact ⟨_, rfl, [0,1,2,3,4,5], chM cap most s (bk0 (o1 :: old)) none, .i .i64 5, ⟨rfl, rfl, (by simp [viewP, okL, okV, mapL, mapV, mem_get, mapL_cellsR, okL_cellsR, chM, rmM, tsM, trM, arM, bk0]), rfl⟩, rfl, trivial, rfl, rfl⟩
  · simp only [List.length_cons, List.length_nil] at ho hf hx
    refine FM.pbodyV (tb := tb) (fn := Try.f33) rfl rfl ?_
    simp only [argS, Nat.reduceAdd, chM, rmM, tsM, trM, arM, bk0, slP, List.length_cons, List.length_nil, List.cons_append, List.nil_append]
    refine WS.pseq rfl ?_
    refine WS.pregion rfl ?_
    refine WS.po (tb := tb) rfl rfl rfl rfl rfl ?_
    refine WS.pend rfl ?_
    refine WS.pseq rfl ?_
    refine WS.pseq rfl ?_
    refine WS.pdrawQ (tb := tb) [0,1,2] L (by exact rfl) (by kernel_rfl) rfl (by kernel_rfl) (by kernel_rfl) (by (try simp only [mapL, mapV, ll]) <;> exact rfl) (by simp [okL, okV, trR, arR]) (by simp [embP, okL, okV, mapL, mapV, lockH, mem_next, mem_get, mem_ro, mapL_cellsR, okL_cellsR, trR, arR] <;> simp [LH.get, mem, memT, T.get, T.put, T.setF]; fail_if_success exfalso) rfl (by first | trivial | simp [okV, okL]) (fun _ => ?_)
    refine WD.p (tb := tb) rfl rfl rfl rfl rfl ?_
    refine WD.p (tb := tb) rfl rfl rfl rfl rfl ?_
    refine WD.pP (tb := tb) rfl rfl rfl rfl rfl (by simp only [nl, nz, Nat.reduceAdd, Nat.reduceMul, Int.reduceToNat]; exact rfl) ?_
    refine WD.r (tb := tb) rfl rfl rfl rfl rfl ?_
    refine WD.r (tb := tb) rfl rfl rfl rfl (evQ_call rfl rfl rfl rfl rfl) ?_
    refine WD.p (tb := tb) rfl rfl rfl rfl rfl ?_
    refine WD.p (tb := tb) rfl rfl rfl rfl rfl ?_
    refine WD.pW (tb := tb) rfl rfl rfl rfl rfl (by simp only [lo]; omega) (by simp only [Am.hi]; omega) ?_
    refine WD.p (tb := tb) rfl rfl rfl rfl rfl ?_
    refine WD.p (tb := tb) rfl rfl rfl rfl rfl ?_
    refine WD.pW (tb := tb) rfl rfl rfl rfl rfl (by simp only [lo]; omega) (by simp only [Am.hi]; omega) ?_
    refine WD.p (tb := tb) rfl rfl rfl rfl rfl ?_
    refine WD.p (tb := tb) rfl rfl rfl rfl rfl ?_
    refine WD.pP (tb := tb) rfl rfl rfl rfl rfl (by simp only [nl, nz, Nat.reduceAdd, Nat.reduceMul, Int.reduceToNat]; exact rfl) ?_
    refine WD.r (tb := tb) rfl rfl rfl rfl rfl ?_
    refine WD.pDT (tb := tb) rfl rfl rfl rfl rfl (by omega) ?_
    refine WD.fin rfl ?_
    refine WS.pcondT rfl rfl ?_
    refine WS.pseq rfl ?_
    refine WS.pregion rfl ?_
    refine WS.po (tb := tb) rfl rfl rfl rfl rfl ?_
    refine WS.pend rfl ?_
    refine WS.pret rfl ⟨.inr rfl, _, rfl, ?_⟩
    exact ⟨_, rfl, [0,1,2,3,4,5], chM cap most s (bk0 (o1 :: old)) (bk0 (f1 :: fresh)), .i .i64 5, ⟨rfl, rfl, (by simp [viewP, okL, okV, mapL, mapV, mem_get, mapL_cellsR, okL_cellsR, chM, rmM, tsM, trM, arM, bk0]), rfl⟩, rfl, trivial, rfl, rfl⟩
end Go.Proofs.Ytdeeancepelkiaa.Am

