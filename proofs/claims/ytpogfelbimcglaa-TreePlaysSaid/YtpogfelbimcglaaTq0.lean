/- Functions of the tree and of the law TreePlays, walked. Conditions: those of each theorem. -/
import Derived.Test.YtpogfelbimcglaaTs0
namespace Go.Proofs.Ytpogfelbimcglaa.Am
open Go.Proofs
set_option maxRecDepth 1000000
set_option maxHeartbeats 4000000
set_option linter.unusedSimpArgs false
set_option linter.unusedVariables false
def toRn (x : Nd) : Rn := ⟨x.a, x.b, x.c⟩
def floorR (k : Int) (l : List Rn) (o : Option Rn) : Option Rn := l.foldl (fun o x => if x.a ≤ k then some x else o) o
def ceilR (k : Int) (l : List Rn) : Option Rn := l.find? fun x => decide (x.a ≥ k)
def rA (o : Option Rn) : Int := match o with | some x => x.a | none => 0
def rB (o : Option Rn) : Int := match o with | some x => x.b | none => 0
def rC (o : Option Rn) : Int := match o with | some x => x.c | none => 0
theorem floorR_map (k : Int) : ∀ (l : List Nd) (o : Option Nd), (floorL k l o).map toRn = floorR k (l.map toRn) (o.map toRn)
  | [], o => rfl
  | x :: l, o => by
    simp only [floorL, floorR, List.foldl_cons, List.map_cons] at *
    have := floorR_map k l (if x.a ≤ k then some x else o)
    simp only [floorL, floorR] at this
    rw [this]
    congr 1
    by_cases h : x.a ≤ k
    · rw [if_pos h, if_pos (show (toRn x).a ≤ k from h)]; rfl
    · rw [if_neg h, if_neg (show ¬ (toRn x).a ≤ k from h)]
theorem ceilR_map (k : Int) (l : List Nd) : (ceilL k l).map toRn = ceilR k (l.map toRn) := by
  simp only [ceilL, ceilR, List.find?_map]; rfl
theorem oA_map (o : Option Nd) : oA o = rA (o.map toRn) := by cases o <;> rfl
theorem oB_map (o : Option Nd) : oB o = rB (o.map toRn) := by cases o <;> rfl
theorem oC_map (o : Option Nd) : oC o = rC (o.map toRn) := by cases o <;> rfl
theorem floor_runs {n : Nat} {s : TS} (h : TOk n s) (k : Int) : (floorT k s.T none).map toRn = floorR k (runsT s.T) none := by rw [floor_ino k s.T none h.srt, floorR_map]; rfl
theorem ceil_runs {n : Nat} {s : TS} (h : TOk n s) (k : Int) : (ceilT k s.T none).map toRn = ceilR k (runsT s.T) := by rw [ceil_ino k s.T none h.srt, Option.or_none, ceilR_map]; rfl
theorem floorR_walk {n : Nat} {s : TS} (k : Int) (h : TOk n s) (hm : n ≤ 512) (o : Option Rn) (ho : floorR k (runsT s.T) none = o) : FM Try.prog 25 [.p (some (2,0)), .i .i64 k] (tsR s) (fun v M' => v = .tup [.agg [.i .i64 (rA o), .i .i64 (rB o), .i .i64 (rC o)], .b o.isSome] ∧ M' = tsR s) := by
  have hl := h.len
  have F := floor_walk s.ps s.fr s.n s.n k s.T h.rep (by omega)
  rw [oA_map, oB_map, oC_map, ← Option.isSome_map (f := toRn), floor_runs h, ho] at F
  exact F
theorem ceilR_walk {n : Nat} {s : TS} (k : Int) (h : TOk n s) (hm : n ≤ 512) (o : Option Rn) (ho : ceilR k (runsT s.T) = o) : FM Try.prog 12 [.p (some (2,0)), .i .i64 k] (tsR s) (fun v M' => v = .tup [.agg [.i .i64 (rA o), .i .i64 (rB o), .i .i64 (rC o)], .b o.isSome] ∧ M' = tsR s) := by
  have hl := h.len
  have F := ceil_walk s.ps s.fr s.n s.n k s.T h.rep (by omega)
  rw [oA_map, oB_map, oC_map, ← Option.isSome_map (f := toRn), ceil_runs h, ho] at F
  exact F
def getRn (k : Int) (l : List Rn) : Option Rn := l.find? fun x => x.a == k
theorem getRn_map (k : Int) (l : List Nd) : (getL k l).map toRn = getRn k (l.map toRn) := by
  simp only [getL, getRn, List.find?_map]; rfl
theorem findR_walk {n : Nat} {s : TS} (k : Int) (h : TOk n s) (hm : n ≤ 512) (o : Option Rn) (ho : getRn k (runsT s.T) = o) : FM Try.prog 26 [.p (some (2,0)), .i .i64 k] (tsR s) (fun v M' => v = .tup [.agg [.i .i64 (rA o), .i .i64 (rB o), .i .i64 (rC o)], .b o.isSome] ∧ M' = tsR s) := by
  have hl := h.len
  have F := find_walk s.ps s.fr s.n s.n k s.T h.rep (by omega)
  have e : (findT k s.T).map toRn = o := by rw [find_ino k s.T h.srt, getRn_map]; exact ho
  rw [oA_map, oB_map, oC_map, ← Option.isSome_map (f := toRn), e] at F
  exact F
end Go.Proofs.Ytpogfelbimcglaa.Am

