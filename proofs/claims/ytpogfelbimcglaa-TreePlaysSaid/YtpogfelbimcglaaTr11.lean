/- Functions of the tree and of the law TreePlays, walked. Conditions: those of each theorem. -/
import Derived.Test.YtpogfelbimcglaaTr10
namespace Go.Proofs.Ytpogfelbimcglaa.Am
open Go.Proofs
set_option maxRecDepth 1000000
set_option maxHeartbeats 4000000
set_option linter.unusedSimpArgs false
set_option linter.unusedVariables false
/-- The tree behind one run more. -/
def insS (s : TS) (a b c : Int) : TS := ⟨layP (s.ps.set s.fr.toNat ⟨true, 0, 0, 0, 0, 0, 0, 0⟩) (ins s.fr.toNat a b c s.T), ((s.ps[s.fr.toNat]?).map Pl.next).getD 0, ins s.fr.toNat a b c s.T⟩
def delS (s : TS) (k : Int) : TS := ⟨layP (s.ps.set (fid k s.T) (dead s.fr)) (rem k s.T), fid k s.T, rem k s.T⟩
def chgS (s : TS) (a b c : Int) : TS := ⟨match s.ps[fid a s.T]? with | none => s.ps | some p => s.ps.set (fid a s.T) ⟨true, p.next, p.l, p.r, p.h, a, b, c⟩, s.fr, chgT a b c s.T⟩
/-- The first run with that key. -/
def getL (k : Int) (l : List Nd) : Option Nd := l.find? fun x => x.a == k
theorem getL_app (k : Int) (l r : List Nd) : getL k (l ++ r) = (getL k l).or (getL k r) := List.find?_append
theorem getL_no {k : Int} {l : List Nd} (h : ∀ x ∈ l, x.a ≠ k) : getL k l = none := List.find?_eq_none.2 fun x hx => by simpa using h x hx
theorem fid_get (k : Int) : ∀ T : Tr, Srt T.ino → (∀ j, j ∈ T.ids → 0 < j) → (fid k T ≠ 0 ↔ (getL k T.ino).isSome = true)
  | .lf, _, _ => by simp [fid, getL, Tr.ino]
  | .nd id l x y z r, h, hp => by
    have hs : Srt (l.ino ++ ⟨id, x, y, z⟩ :: r.ino) := h
    obtain ⟨s1, s2, s3⟩ := List.pairwise_append.1 hs
    obtain ⟨s4, s5⟩ := List.pairwise_cons.1 s2
    have lx : ∀ q ∈ l.ino, q.a < x := fun q hq => s3 q hq ⟨id, x, y, z⟩ (by simp)
    have rx : ∀ q ∈ r.ino, x < q.a := fun q hq => s4 q hq
    have hc : getL k (⟨id, x, y, z⟩ :: r.ino) = if x = k then some ⟨id, x, y, z⟩ else getL k r.ino := by
      simp only [getL, List.find?_cons]
      by_cases e : x = k
      · simp [e]
      · rw [show ((⟨id, x, y, z⟩ : Nd).a == k) = false by simpa using e]; simp [e]
    simp only [Tr.ino, fid]
    rw [getL_app, hc]
    by_cases h1 : k < x
    · rw [if_pos h1, if_neg (by omega), getL_no (l := r.ino) (fun q hq => by have := rx q hq; omega), Option.or_none]
      exact fid_get k l s1 fun j hj => hp j (by simp [ids_nd, hj])
    · rw [if_neg h1, getL_no (l := l.ino) (fun q hq => by have := lx q hq; omega), Option.none_or]
      by_cases h2 : x < k
      · rw [if_pos h2, if_neg (by omega)]
        exact fid_get k r s5 fun j hj => hp j (by simp [ids_nd, hj])
      · rw [if_neg h2, if_pos (by omega)]
        have := hp id (by simp [ids_nd])
        simp; omega
/-- The last run at a sector, or ahead of it. -/
def floorL (k : Int) (l : List Nd) (o : Option Nd) : Option Nd := l.foldl (fun o x => if x.a ≤ k then some x else o) o
def ceilL (k : Int) (l : List Nd) : Option Nd := l.find? fun x => decide (x.a ≥ k)
theorem floorL_gt {k : Int} {l : List Nd} (h : ∀ x ∈ l, k < x.a) (o : Option Nd) : floorL k l o = o := by
  induction l with
  | nil => rfl
  | cons x l ih =>
    simp only [floorL, List.foldl_cons] at *
    rw [if_neg (by have := h x (by simp); omega)]
    exact ih fun q hq => h q (by simp [hq])
theorem floorL_any {k : Int} {l : List Nd} (o o2 : Option Nd) (h : ∃ x ∈ l, x.a ≤ k) : floorL k l o = floorL k l o2 := by
  induction l generalizing o o2 with
  | nil => obtain ⟨x, hx, _⟩ := h; simp at hx
  | cons x l ih =>
    simp only [floorL, List.foldl_cons] at *
    by_cases hx : x.a ≤ k
    · rw [if_pos hx, if_pos hx]
    · rw [if_neg hx, if_neg hx]
      obtain ⟨y, hy, hk⟩ := h
      rcases List.mem_cons.1 hy with rfl | hy
      · exact absurd hk hx
      · exact ih o o2 ⟨y, hy, hk⟩
theorem floor_ino (k : Int) : ∀ (T : Tr) (o : Option Nd), Srt T.ino → floorT k T o = floorL k T.ino o
  | .lf, o, _ => rfl
  | .nd id l x y z r, o, h => by
    have hs : Srt (l.ino ++ ⟨id, x, y, z⟩ :: r.ino) := h
    obtain ⟨s1, s2, s3⟩ := List.pairwise_append.1 hs
    obtain ⟨s4, s5⟩ := List.pairwise_cons.1 s2
    have rx : ∀ q ∈ r.ino, x < q.a := fun q hq => s4 q hq
    have e : floorL k (l.ino ++ ⟨id, x, y, z⟩ :: r.ino) o = floorL k r.ino (if x ≤ k then some ⟨id, x, y, z⟩ else floorL k l.ino o) := by
      simp only [floorL, List.foldl_append, List.foldl_cons]
    simp only [Tr.ino, floorT]
    rw [e]
    by_cases hx : x ≤ k
    · rw [if_pos hx, if_pos hx, floor_ino k r _ s5]
    · rw [if_neg hx, if_neg hx, floor_ino k l o s1, floorL_gt (l := r.ino) (fun q hq => by have := rx q hq; omega)]
theorem ceil_ino (k : Int) : ∀ (T : Tr) (o : Option Nd), Srt T.ino → ceilT k T o = (ceilL k T.ino).or o
  | .lf, o, _ => by simp [ceilT, ceilL, Tr.ino]
  | .nd id l x y z r, o, h => by
    have hs : Srt (l.ino ++ ⟨id, x, y, z⟩ :: r.ino) := h
    obtain ⟨s1, s2, s3⟩ := List.pairwise_append.1 hs
    obtain ⟨s4, s5⟩ := List.pairwise_cons.1 s2
    have lx : ∀ q ∈ l.ino, q.a < x := fun q hq => s3 q hq ⟨id, x, y, z⟩ (by simp)
    have hc : ceilL k (⟨id, x, y, z⟩ :: r.ino) = if x ≥ k then some ⟨id, x, y, z⟩ else ceilL k r.ino := by
      simp only [ceilL, List.find?_cons]
      by_cases e : x ≥ k
      · rw [decide_eq_true e, if_pos e]
      · rw [decide_eq_false e, if_neg e]
    have ha : ceilL k (l.ino ++ ⟨id, x, y, z⟩ :: r.ino) = (ceilL k l.ino).or (ceilL k (⟨id, x, y, z⟩ :: r.ino)) := List.find?_append
    simp only [Tr.ino, ceilT]
    rw [ha, hc]
    by_cases hx : x ≥ k
    · rw [if_pos hx, if_pos hx, ceil_ino k l _ s1, Option.or_assoc]; rfl
    · have hn : ceilL k l.ino = none := List.find?_eq_none.2 fun q hq => by simpa using (by have := lx q hq; omega : q.a < k)
      rw [if_neg hx, if_neg hx, ceil_ino k r o s5, hn, Option.none_or]
def hitK (k : Int) (o : Option Nd) : Option Nd := match o with
  | none => none
  | some x => if x.a = k then some x else none
theorem hit_floor (k : Int) : ∀ (l : List Nd) (o : Option Nd), Srt l → (∀ x, o = some x → x.a < k) → hitK k (floorL k l o) = getL k l
  | [], none, _, _ => rfl
  | [], some x, _, h => by have := h x rfl; simp [floorL, hitK, getL]; omega
  | y :: l, o, h, ho => by
    obtain ⟨h1, h2⟩ := List.pairwise_cons.1 h
    have hc : getL k (y :: l) = if y.a = k then some y else getL k l := by
      simp only [getL, List.find?_cons]
      by_cases e : y.a = k
      · simp [e]
      · rw [show (y.a == k) = false by simpa using e]; simp [e]
    have ef : floorL k (y :: l) o = floorL k l (if y.a ≤ k then some y else o) := rfl
    rw [ef, hc]
    rcases Int.lt_trichotomy y.a k with hy | hy | hy
    · rw [if_pos (by omega), if_neg (by omega)]
      exact hit_floor k l (some y) h2 fun x ex => by obtain rfl := Option.some.inj ex; exact hy
    · rw [if_pos (by omega), if_pos hy, floorL_gt (fun q hq => by have := h1 q hq; omega)]
      simp only [hitK]; rw [if_pos hy]
    · rw [if_neg (by omega), if_neg (by omega), floorL_gt (fun q hq => by have := h1 q hq; omega), getL_no (fun q hq => by have := h1 q hq; omega)]
      cases o with
      | none => rfl
      | some x => have := ho x rfl; simp only [hitK]; rw [if_neg (by omega)]
theorem find_ino (k : Int) (T : Tr) (h : Srt T.ino) : findT k T = getL k T.ino := by
  have := hit_floor k T.ino none h (fun x e => by cases e)
  rw [← this, ← floor_ino k T none h]; rfl
end Go.Proofs.Ytpogfelbimcglaa.Am

