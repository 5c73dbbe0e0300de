/- Functions of the tree and of the law TreePlays, walked. Conditions: those of each theorem. -/
import Derived.Test.YtpogfelbimcglaaTr13
namespace Go.Proofs.Ytpogfelbimcglaa.Am
open Go.Proofs
set_option maxRecDepth 1000000
set_option maxHeartbeats 4000000
set_option linter.unusedSimpArgs false
set_option linter.unusedVariables false
structure Rn where
  a : Int
  b : Int
  c : Int
def rwRn : Rw Rn := ⟨3, fun x => [.i .i64 x.a, .i .i64 x.b, .i .i64 x.c], fun _ => rfl, fun _ => by simp [okL, okV]⟩
theorem Rn_len (xs : List Rn) : (cellsR rwRn xs).length = xs.length * 3 := cellsR_len rwRn xs
theorem Rn_set {xs : List Rn} {x : Rn} {i : Nat} (h : xs[i]? = some x) (a_ : Int) (b_ : Int) (c_ : Int) : setL (cellsR rwRn xs) (i * 3) [.i .i64 a_, .i .i64 b_, .i .i64 c_] = cellsR rwRn (xs.set i ⟨a_, b_, c_⟩) := cellsR_set0 (R := rwRn) h (Nat.le_refl _) rfl
theorem Rn_app1 {xs : List Rn} {a_ : Int} {b_ : Int} {c_ : Int} : cellsR rwRn xs ++ [.i .i64 a_, .i .i64 b_, .i .i64 c_] = cellsR rwRn (xs ++ [⟨a_, b_, c_⟩]) := by rw [cellsR_app]; simp [cellsR, rwRn]
theorem Rn_reps {a_ : Int} {b_ : Int} {c_ : Int} (n : Nat) : reps [.i .i64 a_, .i .i64 b_, .i .i64 c_] n = cellsR rwRn (List.replicate n ⟨a_, b_, c_⟩) := cellsR_reps rwRn ⟨a_, b_, c_⟩ n
theorem Rn_one {a_ : Int} {b_ : Int} {c_ : Int} : cellsR rwRn [⟨a_, b_, c_⟩] = [.i .i64 a_, .i .i64 b_, .i .i64 c_] := by simp [cellsR, rwRn]
theorem Rn_set_a {xs : List Rn} {x : Rn} {i : Nat} (h : xs[i]? = some x) (v_ : Int) : setL (cellsR rwRn xs) (i * 3) [.i .i64 v_] = cellsR rwRn (xs.set i { x with a := v_ }) := cellsR_set0 (R := rwRn) h (Nat.le_of_ble_eq_true rfl) rfl
theorem Rn_set_b {xs : List Rn} {x : Rn} {i : Nat} (h : xs[i]? = some x) (v_ : Int) : setL (cellsR rwRn xs) (i * 3 + 1) [.i .i64 v_] = cellsR rwRn (xs.set i { x with b := v_ }) := cellsR_set (R := rwRn) h (Nat.le_of_ble_eq_true rfl) rfl
theorem Rn_set_c {xs : List Rn} {x : Rn} {i : Nat} (h : xs[i]? = some x) (v_ : Int) : setL (cellsR rwRn xs) (i * 3 + 2) [.i .i64 v_] = cellsR rwRn (xs.set i { x with c := v_ }) := cellsR_set (R := rwRn) h (Nat.le_of_ble_eq_true rfl) rfl
structure Vw where
  id : Int
  l : Int
  r : Int
  h : Int
  a : Int
  b : Int
  c : Int
def rwVw : Rw Vw := ⟨7, fun x => [.i .u32 x.id, .i .u32 x.l, .i .u32 x.r, .i .i64 x.h, .i .i64 x.a, .i .i64 x.b, .i .i64 x.c], fun _ => rfl, fun _ => by simp [okL, okV]⟩
theorem Vw_len (xs : List Vw) : (cellsR rwVw xs).length = xs.length * 7 := cellsR_len rwVw xs
theorem Vw_set {xs : List Vw} {x : Vw} {i : Nat} (h : xs[i]? = some x) (id_ : Int) (l_ : Int) (r_ : Int) (h_ : Int) (a_ : Int) (b_ : Int) (c_ : Int) : setL (cellsR rwVw xs) (i * 7) [.i .u32 id_, .i .u32 l_, .i .u32 r_, .i .i64 h_, .i .i64 a_, .i .i64 b_, .i .i64 c_] = cellsR rwVw (xs.set i ⟨id_, l_, r_, h_, a_, b_, c_⟩) := cellsR_set0 (R := rwVw) h (Nat.le_refl _) rfl
theorem Vw_app1 {xs : List Vw} {id_ : Int} {l_ : Int} {r_ : Int} {h_ : Int} {a_ : Int} {b_ : Int} {c_ : Int} : cellsR rwVw xs ++ [.i .u32 id_, .i .u32 l_, .i .u32 r_, .i .i64 h_, .i .i64 a_, .i .i64 b_, .i .i64 c_] = cellsR rwVw (xs ++ [⟨id_, l_, r_, h_, a_, b_, c_⟩]) := by rw [cellsR_app]; simp [cellsR, rwVw]
theorem Vw_reps {id_ : Int} {l_ : Int} {r_ : Int} {h_ : Int} {a_ : Int} {b_ : Int} {c_ : Int} (n : Nat) : reps [.i .u32 id_, .i .u32 l_, .i .u32 r_, .i .i64 h_, .i .i64 a_, .i .i64 b_, .i .i64 c_] n = cellsR rwVw (List.replicate n ⟨id_, l_, r_, h_, a_, b_, c_⟩) := cellsR_reps rwVw ⟨id_, l_, r_, h_, a_, b_, c_⟩ n
theorem Vw_one {id_ : Int} {l_ : Int} {r_ : Int} {h_ : Int} {a_ : Int} {b_ : Int} {c_ : Int} : cellsR rwVw [⟨id_, l_, r_, h_, a_, b_, c_⟩] = [.i .u32 id_, .i .u32 l_, .i .u32 r_, .i .i64 h_, .i .i64 a_, .i .i64 b_, .i .i64 c_] := by simp [cellsR, rwVw]
theorem Vw_set_id {xs : List Vw} {x : Vw} {i : Nat} (h : xs[i]? = some x) (v_ : Int) : setL (cellsR rwVw xs) (i * 7) [.i .u32 v_] = cellsR rwVw (xs.set i { x with id := v_ }) := cellsR_set0 (R := rwVw) h (Nat.le_of_ble_eq_true rfl) rfl
theorem Vw_set_l {xs : List Vw} {x : Vw} {i : Nat} (h : xs[i]? = some x) (v_ : Int) : setL (cellsR rwVw xs) (i * 7 + 1) [.i .u32 v_] = cellsR rwVw (xs.set i { x with l := v_ }) := cellsR_set (R := rwVw) h (Nat.le_of_ble_eq_true rfl) rfl
theorem Vw_set_r {xs : List Vw} {x : Vw} {i : Nat} (h : xs[i]? = some x) (v_ : Int) : setL (cellsR rwVw xs) (i * 7 + 2) [.i .u32 v_] = cellsR rwVw (xs.set i { x with r := v_ }) := cellsR_set (R := rwVw) h (Nat.le_of_ble_eq_true rfl) rfl
theorem Vw_set_h {xs : List Vw} {x : Vw} {i : Nat} (h : xs[i]? = some x) (v_ : Int) : setL (cellsR rwVw xs) (i * 7 + 3) [.i .i64 v_] = cellsR rwVw (xs.set i { x with h := v_ }) := cellsR_set (R := rwVw) h (Nat.le_of_ble_eq_true rfl) rfl
theorem Vw_set_a {xs : List Vw} {x : Vw} {i : Nat} (h : xs[i]? = some x) (v_ : Int) : setL (cellsR rwVw xs) (i * 7 + 4) [.i .i64 v_] = cellsR rwVw (xs.set i { x with a := v_ }) := cellsR_set (R := rwVw) h (Nat.le_of_ble_eq_true rfl) rfl
theorem Vw_set_b {xs : List Vw} {x : Vw} {i : Nat} (h : xs[i]? = some x) (v_ : Int) : setL (cellsR rwVw xs) (i * 7 + 5) [.i .i64 v_] = cellsR rwVw (xs.set i { x with b := v_ }) := cellsR_set (R := rwVw) h (Nat.le_of_ble_eq_true rfl) rfl
theorem Vw_set_c {xs : List Vw} {x : Vw} {i : Nat} (h : xs[i]? = some x) (v_ : Int) : setL (cellsR rwVw xs) (i * 7 + 6) [.i .i64 v_] = cellsR rwVw (xs.set i { x with c := v_ }) := cellsR_set (R := rwVw) h (Nat.le_of_ble_eq_true rfl) rfl
def runsT (T : Tr) : List Rn := T.ino.map fun x => ⟨x.a, x.b, x.c⟩
def viewsT : Tr → List Vw
  | .lf => []
  | .nd id l a b c r => viewsT l ++ ⟨id, l.id, r.id, 1 + ((max l.ht r.ht : Nat) : Int), a, b, c⟩ :: viewsT r
theorem viewsT_len : ∀ T : Tr, (viewsT T).length = T.ids.length
  | .lf => rfl
  | .nd id l a b c r => by simp only [viewsT, ids_nd, List.length_append, List.length_cons, viewsT_len l, viewsT_len r]
theorem runsT_len (T : Tr) : (runsT T).length = T.ids.length := by simp [runsT, Tr.ids]
theorem runsT_nd {id : Nat} {l r : Tr} {a b c : Int} : runsT (.nd id l a b c r) = runsT l ++ ⟨a, b, c⟩ :: runsT r := by simp [runsT, Tr.ino]
end Go.Proofs.Ytpogfelbimcglaa.Am

