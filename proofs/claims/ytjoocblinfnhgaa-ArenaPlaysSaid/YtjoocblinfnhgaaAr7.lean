/- What holds behind each call of ArenaPlays. Conditions: those of each theorem. -/
import Derived.Test.YtjoocblinfnhgaaAr6
namespace Go.Proofs.Ytjoocblinfnhgaa.Am
open Go.Proofs
set_option maxRecDepth 100000
set_option maxHeartbeats 4000000
set_option linter.unusedSimpArgs false
set_option linter.unusedVariables false
structure Act where
  op : Int
  id : Int
  left : Int
  h : Int
  lba : Int
def rwAct : Rw Act := ⟨5, fun x => [.i .i64 x.op, .i .i64 x.id, .i .i64 x.left, .i .i64 x.h, .i .i64 x.lba], fun _ => rfl, fun _ => by simp [okL, okV]⟩
theorem Act_len (xs : List Act) : (cellsR rwAct xs).length = xs.length * 5 := cellsR_len rwAct xs
theorem Act_set {xs : List Act} {x : Act} {i : Nat} (h : xs[i]? = some x) (op_ : Int) (id_ : Int) (left_ : Int) (h_ : Int) (lba_ : Int) : setL (cellsR rwAct xs) (i * 5) [.i .i64 op_, .i .i64 id_, .i .i64 left_, .i .i64 h_, .i .i64 lba_] = cellsR rwAct (xs.set i ⟨op_, id_, left_, h_, lba_⟩) := cellsR_set0 (R := rwAct) h (Nat.le_refl _) rfl
theorem Act_app1 {xs : List Act} {op_ : Int} {id_ : Int} {left_ : Int} {h_ : Int} {lba_ : Int} : cellsR rwAct xs ++ [.i .i64 op_, .i .i64 id_, .i .i64 left_, .i .i64 h_, .i .i64 lba_] = cellsR rwAct (xs ++ [⟨op_, id_, left_, h_, lba_⟩]) := by rw [cellsR_app]; simp [cellsR, rwAct]
theorem Act_reps {op_ : Int} {id_ : Int} {left_ : Int} {h_ : Int} {lba_ : Int} (n : Nat) : reps [.i .i64 op_, .i .i64 id_, .i .i64 left_, .i .i64 h_, .i .i64 lba_] n = cellsR rwAct (List.replicate n ⟨op_, id_, left_, h_, lba_⟩) := cellsR_reps rwAct ⟨op_, id_, left_, h_, lba_⟩ n
theorem Act_set_op {xs : List Act} {x : Act} {i : Nat} (h : xs[i]? = some x) (v_ : Int) : setL (cellsR rwAct xs) (i * 5) [.i .i64 v_] = cellsR rwAct (xs.set i { x with op := v_ }) := cellsR_set0 (R := rwAct) h (Nat.le_of_ble_eq_true rfl) rfl
theorem Act_set_id {xs : List Act} {x : Act} {i : Nat} (h : xs[i]? = some x) (v_ : Int) : setL (cellsR rwAct xs) (i * 5 + 1) [.i .i64 v_] = cellsR rwAct (xs.set i { x with id := v_ }) := cellsR_set (R := rwAct) h (Nat.le_of_ble_eq_true rfl) rfl
theorem Act_set_left {xs : List Act} {x : Act} {i : Nat} (h : xs[i]? = some x) (v_ : Int) : setL (cellsR rwAct xs) (i * 5 + 2) [.i .i64 v_] = cellsR rwAct (xs.set i { x with left := v_ }) := cellsR_set (R := rwAct) h (Nat.le_of_ble_eq_true rfl) rfl
theorem Act_set_h {xs : List Act} {x : Act} {i : Nat} (h : xs[i]? = some x) (v_ : Int) : setL (cellsR rwAct xs) (i * 5 + 3) [.i .i64 v_] = cellsR rwAct (xs.set i { x with h := v_ }) := cellsR_set (R := rwAct) h (Nat.le_of_ble_eq_true rfl) rfl
theorem Act_set_lba {xs : List Act} {x : Act} {i : Nat} (h : xs[i]? = some x) (v_ : Int) : setL (cellsR rwAct xs) (i * 5 + 4) [.i .i64 v_] = cellsR rwAct (xs.set i { x with lba := v_ }) := cellsR_set (R := rwAct) h (Nat.le_of_ble_eq_true rfl) rfl
structure Nd where
  l : Int
  r : Int
  h : Int
  a : Int
  b : Int
  c : Int
def rwNd : Rw Nd := ⟨6, fun x => [.i .u32 x.l, .i .u32 x.r, .i .i64 x.h, .i .i64 x.a, .i .i64 x.b, .i .i64 x.c], fun _ => rfl, fun _ => by simp [okL, okV]⟩
theorem Nd_len (xs : List Nd) : (cellsR rwNd xs).length = xs.length * 6 := cellsR_len rwNd xs
theorem Nd_set {xs : List Nd} {x : Nd} {i : Nat} (h : xs[i]? = some x) (l_ : Int) (r_ : Int) (h_ : Int) (a_ : Int) (b_ : Int) (c_ : Int) : setL (cellsR rwNd xs) (i * 6) [.i .u32 l_, .i .u32 r_, .i .i64 h_, .i .i64 a_, .i .i64 b_, .i .i64 c_] = cellsR rwNd (xs.set i ⟨l_, r_, h_, a_, b_, c_⟩) := cellsR_set0 (R := rwNd) h (Nat.le_refl _) rfl
theorem Nd_app1 {xs : List Nd} {l_ : Int} {r_ : Int} {h_ : Int} {a_ : Int} {b_ : Int} {c_ : Int} : cellsR rwNd xs ++ [.i .u32 l_, .i .u32 r_, .i .i64 h_, .i .i64 a_, .i .i64 b_, .i .i64 c_] = cellsR rwNd (xs ++ [⟨l_, r_, h_, a_, b_, c_⟩]) := by rw [cellsR_app]; simp [cellsR, rwNd]
theorem Nd_reps {l_ : Int} {r_ : Int} {h_ : Int} {a_ : Int} {b_ : Int} {c_ : Int} (n : Nat) : reps [.i .u32 l_, .i .u32 r_, .i .i64 h_, .i .i64 a_, .i .i64 b_, .i .i64 c_] n = cellsR rwNd (List.replicate n ⟨l_, r_, h_, a_, b_, c_⟩) := cellsR_reps rwNd ⟨l_, r_, h_, a_, b_, c_⟩ n
theorem Nd_set_l {xs : List Nd} {x : Nd} {i : Nat} (h : xs[i]? = some x) (v_ : Int) : setL (cellsR rwNd xs) (i * 6) [.i .u32 v_] = cellsR rwNd (xs.set i { x with l := v_ }) := cellsR_set0 (R := rwNd) h (Nat.le_of_ble_eq_true rfl) rfl
theorem Nd_set_r {xs : List Nd} {x : Nd} {i : Nat} (h : xs[i]? = some x) (v_ : Int) : setL (cellsR rwNd xs) (i * 6 + 1) [.i .u32 v_] = cellsR rwNd (xs.set i { x with r := v_ }) := cellsR_set (R := rwNd) h (Nat.le_of_ble_eq_true rfl) rfl
theorem Nd_set_h {xs : List Nd} {x : Nd} {i : Nat} (h : xs[i]? = some x) (v_ : Int) : setL (cellsR rwNd xs) (i * 6 + 2) [.i .i64 v_] = cellsR rwNd (xs.set i { x with h := v_ }) := cellsR_set (R := rwNd) h (Nat.le_of_ble_eq_true rfl) rfl
theorem Nd_set_a {xs : List Nd} {x : Nd} {i : Nat} (h : xs[i]? = some x) (v_ : Int) : setL (cellsR rwNd xs) (i * 6 + 3) [.i .i64 v_] = cellsR rwNd (xs.set i { x with a := v_ }) := cellsR_set (R := rwNd) h (Nat.le_of_ble_eq_true rfl) rfl
theorem Nd_set_b {xs : List Nd} {x : Nd} {i : Nat} (h : xs[i]? = some x) (v_ : Int) : setL (cellsR rwNd xs) (i * 6 + 4) [.i .i64 v_] = cellsR rwNd (xs.set i { x with b := v_ }) := cellsR_set (R := rwNd) h (Nat.le_of_ble_eq_true rfl) rfl
theorem Nd_set_c {xs : List Nd} {x : Nd} {i : Nat} (h : xs[i]? = some x) (v_ : Int) : setL (cellsR rwNd xs) (i * 6 + 5) [.i .i64 v_] = cellsR rwNd (xs.set i { x with c := v_ }) := cellsR_set (R := rwNd) h (Nat.le_of_ble_eq_true rfl) rfl
theorem Node_eq (l l2 : Int) (r r2 : Int) (h h2 : Int) (a a2 : Int) (b b2 : Int) (c c2 : Int) : eqB tb 100 40 (.agg [.i .u32 l, .i .u32 r, .i .i64 h, .i .i64 a, .i .i64 b, .i .i64 c]) (.agg [.i .u32 l2, .i .u32 r2, .i .i64 h2, .i .i64 a2, .i .i64 b2, .i .i64 c2]) = decide (l = l2 ∧ r = r2 ∧ h = h2 ∧ a = a2 ∧ b = b2 ∧ c = c2) := by
  have h : eqB tb 100 40 (.agg [.i .u32 l, .i .u32 r, .i .i64 h, .i .i64 a, .i .i64 b, .i .i64 c]) (.agg [.i .u32 l2, .i .u32 r2, .i .i64 h2, .i .i64 a2, .i .i64 b2, .i .i64 c2]) = ((l == l2) && ((r == r2) && ((h == h2) && (((a == a2) && ((b == b2) && ((c == c2) && true))) && true)))) := by kernel_rfl
  rw [h]; simp [Bool.beq_eq_decide_eq]
structure St where
  i : Nat
  ps : List Pl
  fr : Int
  lv : Int
  free : List Nat
  xs : List Int
  o : Nat
  q : Bool
  nd : List Nd
structure Inv (size n : Nat) (s : St) : Prop where
  i : s.i ≤ n
  len : s.ps.length = size + 1
  nlen : s.nd.length = size + 1
  chn : Chn s.ps s.fr s.free
  nod : s.free.Nodup
  live : ∀ (j : Nat) (p : Pl), s.ps[j]? = some p → (p.live = true ↔ 1 ≤ j ∧ j ∉ s.free)
  lv : s.lv = size - s.free.length
  xs : s.free ≠ [] → s.xs.drop s.o = nums s.free
  nd : ∀ (j : Nat) (p : Pl), s.ps[j]? = some p → p.live = true → s.nd[j]? = some ⟨p.l, p.r, p.h, p.a, p.b, p.c⟩
theorem chn_set {ps : List Pl} {j : Nat} {x : Pl} : ∀ {fr : Int} {free : List Nat}, Chn ps fr free → j ∉ free → Chn (ps.set j x) fr free
  | _, [], h, _ => h
  | _, k :: l, ⟨h1, h2, p, h3, h4⟩, hn => by
    simp only [List.mem_cons, not_or] at hn
    exact ⟨h1, h2, p, by rw [List.getElem?_set_ne hn.1]; exact h3, chn_set h4 hn.2⟩
theorem chn_lt {ps : List Pl} : ∀ {fr : Int} {free : List Nat}, Chn ps fr free → ∀ k ∈ free, 0 < k ∧ k < ps.length
  | _, [], _, k, hk => by simp at hk
  | _, k' :: l, ⟨h1, h2, p, h3, h4⟩, k, hk => by
    rcases List.mem_cons.1 hk with e | h
    · subst e; exact ⟨h2, (List.getElem?_eq_some_iff.1 h3).1⟩
    · exact chn_lt h4 k h
theorem get_set_cases {α : Type} {xs : List α} {k j : Nat} {x y : α} (h : (xs.set k x)[j]? = some y) : (j = k ∧ y = x) ∨ (j ≠ k ∧ xs[j]? = some y) := by
  rw [List.getElem?_set] at h
  by_cases e : k = j
  · subst e
    rw [if_pos rfl] at h
    split at h
    · injection h with h; exact .inl ⟨rfl, h.symm⟩
    · cases h
  · rw [if_neg e] at h
    exact .inr ⟨fun e' => e e'.symm, h⟩
theorem lives_set (ps : List Pl) (k : Nat) (x : Pl) : lives (ps.set k x) = (lives ps).set k x.live := by simp [lives, List.map_set]
theorem nodup_len : ∀ {a b : List Nat}, a.Nodup → (∀ x, x ∈ a → x ∈ b) → a.length ≤ b.length
  | [], _, _, _ => by simp
  | x :: a, b, h, hs => by
    obtain ⟨h1, h2⟩ := List.nodup_cons.1 h
    have hx := hs x (by simp)
    have := nodup_len (b := b.erase x) h2 fun y hy => (List.mem_erase_of_ne (fun e => by subst e; exact h1 hy)).2 (hs y (by simp [hy]))
    rw [List.length_erase_of_mem hx] at this
    have := List.length_pos_of_mem hx
    simp; omega
theorem free_le {size n : Nat} {s : St} (H : Inv size n s) : s.free.length ≤ size := by
  have h1 : s.free ⊆ (List.range' 1 size) := fun k hk => by
    have := chn_lt H.chn k hk
    rw [H.len] at this
    exact List.mem_range'_1.2 ⟨by omega, by omega⟩
  have := nodup_len H.nod h1
  simpa using this
theorem inv_take {size n : Nat} {s : St} (H : Inv size n s) (hi : s.i < n) {k : Nat} {r : List Nat} (hf : s.free = k :: r) {p : Pl} (hp : s.ps[k]? = some p) (hn : p.next = p.next) (xs : List Int) (o : Nat) (q : Bool) (hx : r ≠ [] → xs.drop o = nums r) (hc : Chn s.ps p.next r) :
    Inv size n ⟨s.i + 1, s.ps.set k ⟨true, 0, 0, 0, 0, 0, 0, 0⟩, p.next, s.lv + 1, r, xs, o, q, s.nd.set k ⟨0, 0, 0, 0, 0, 0⟩⟩ := by
  have hno : k ∉ r := by have := H.nod; rw [hf] at this; exact (List.nodup_cons.1 this).1
  have hk := (List.getElem?_eq_some_iff.1 hp).1
  have h0 := (chn_lt H.chn k (by rw [hf]; simp)).1
  refine ⟨by show s.i + 1 ≤ n; omega, by simp [H.len], by simp [H.nlen], chn_set hc hno, by have := H.nod; rw [hf] at this; exact (List.nodup_cons.1 this).2, fun j p' hj => ?_, ?_, hx, fun j p' hj hl => ?_⟩
  · rcases get_set_cases hj with ⟨rfl, rfl⟩ | ⟨h1, h2⟩
    · simpa using ⟨h0, hno⟩
    · rw [H.live j p' h2, hf]; simp [h1]
  · have := H.lv; rw [hf] at this; simp only [List.length_cons] at this; show s.lv + 1 = _; simp only; omega
  · rcases get_set_cases hj with ⟨rfl, rfl⟩ | ⟨h1, h2⟩
    · simp only; rw [List.getElem?_set_self (by rw [H.nlen, ← H.len]; exact hk)]
    · simp only; rw [List.getElem?_set_ne (Ne.symm h1)]; exact H.nd j p' h2 hl
theorem inv_give {size n : Nat} {s : St} (H : Inv size n s) (hi : s.i < n) {k : Nat} {p : Pl} (hp : s.ps[k]? = some p) (hl : p.live = true) (xs : List Int) (o : Nat) (q : Bool) (hx : xs.drop o = nums (k :: s.free)) :
    Inv size n ⟨s.i + 1, s.ps.set k ⟨false, s.fr, 0, 0, 0, 0, 0, 0⟩, k, s.lv - 1, k :: s.free, xs, o, q, s.nd⟩ := by
  obtain ⟨h0, hno⟩ := (H.live k p hp).1 hl
  have hk := (List.getElem?_eq_some_iff.1 hp).1
  refine ⟨by show s.i + 1 ≤ n; omega, by simp [H.len], H.nlen, ⟨rfl, h0, ⟨false, s.fr, 0, 0, 0, 0, 0, 0⟩, by simp only; rw [List.getElem?_set_self hk], chn_set H.chn hno⟩, List.nodup_cons.2 ⟨hno, H.nod⟩, fun j p' hj => ?_, ?_, fun _ => hx, fun j p' hj hl => ?_⟩
  · rcases get_set_cases hj with ⟨rfl, rfl⟩ | ⟨h1, h2⟩
    · simp
    · rw [H.live j p' h2]; simp [h1]
  · have := H.lv; show s.lv - 1 = _; simp only [List.length_cons]; omega
  · rcases get_set_cases hj with ⟨rfl, rfl⟩ | ⟨h1, h2⟩
    · cases hl
    · exact H.nd j p' h2 hl
theorem inv_put {size n : Nat} {s : St} (H : Inv size n s) (hi : s.i < n) {k : Nat} {p : Pl} (hp : s.ps[k]? = some p) (hl : p.live = true) (l r h a b c : Int) :
    Inv size n ⟨s.i + 1, s.ps.set k ⟨true, p.next, l, r, h, a, b, c⟩, s.fr, s.lv, s.free, s.xs, s.o, s.q, s.nd.set k ⟨l, r, h, a, b, c⟩⟩ := by
  obtain ⟨h0, hno⟩ := (H.live k p hp).1 hl
  have hk := (List.getElem?_eq_some_iff.1 hp).1
  refine ⟨by show s.i + 1 ≤ n; omega, by simp [H.len], by simp [H.nlen], chn_set H.chn hno, H.nod, fun j p' hj => ?_, H.lv, H.xs, fun j p' hj hl => ?_⟩
  · rcases get_set_cases hj with ⟨rfl, rfl⟩ | ⟨h1, h2⟩
    · simpa using ⟨h0, hno⟩
    · exact H.live j p' h2
  · rcases get_set_cases hj with ⟨rfl, rfl⟩ | ⟨h1, h2⟩
    · simp only; rw [List.getElem?_set_self (by rw [H.nlen, ← H.len]; exact hk)]
    · simp only; rw [List.getElem?_set_ne (Ne.symm h1)]; exact H.nd j p' h2 hl
theorem inv_next {size n : Nat} {s : St} (H : Inv size n s) (hi : s.i < n) : Inv size n ⟨s.i + 1, s.ps, s.fr, s.lv, s.free, s.xs, s.o, s.q, s.nd⟩ := ⟨hi, H.len, H.nlen, H.chn, H.nod, H.live, H.lv, H.xs, H.nd⟩
def freeBlk (xs : List Int) (free : List Nat) : Option Blk := match free with
  | [] => none
  | _ :: _ => some ⟨cellsR (rwI .u32) xs, 27, true⟩
def SSp (size : Nat) (a : Option (Nat × Nat)) (n c : Nat) (s : St) : List (Nat × V) := [(0, .i .i64 size), (1, .sl a n c false), (5, .p (some (2,0))), (7, .sl (some (3, s.o)) s.free.length s.free.length s.q), (9, .sl (some (4, 0)) (size + 1) (size + 1) false), (10, .sl (some (5, 0)) (size + 1) (size + 1) false), (11, .i .i64 s.i)]
def MMp (l : List Act) (s : St) : List (Option Blk) := [some ⟨cellsR rwAct l, 36, false⟩, some ⟨cellsR rwPl s.ps, 53, true⟩, some ⟨[.sl (some (1,0)) s.ps.length s.ps.length false, .i .u32 s.fr, .i .i64 s.lv], 51, true⟩, freeBlk s.xs s.free, some ⟨cellsR rwB (lives s.ps), 4, true⟩, some ⟨cellsR rwNd s.nd, 40, true⟩]
end Go.Proofs.Ytjoocblinfnhgaa.Am

