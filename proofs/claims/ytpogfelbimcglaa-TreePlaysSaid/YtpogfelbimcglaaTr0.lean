/- Functions of the tree and of the law TreePlays, walked. Conditions: those of each theorem. -/
import Derived.Test.YtpogfelbimcglaaAr2
namespace Go.Proofs.Ytpogfelbimcglaa.Am
open Go.Proofs
set_option maxRecDepth 1000000
set_option maxHeartbeats 4000000
set_option linter.unusedSimpArgs false
set_option linter.unusedVariables false
/-- A branch as it is meant: its node's number, its run, its two branches. -/
inductive Tr where
  | lf
  | nd (id : Nat) (l : Tr) (a b c : Int) (r : Tr)
def Tr.id : Tr → Nat
  | .lf => 0
  | .nd id _ _ _ _ _ => id
def Tr.ht : Tr → Nat
  | .lf => 0
  | .nd _ l _ _ _ r => 1 + max l.ht r.ht
structure Nd where
  id : Nat
  a : Int
  b : Int
  c : Int
/-- A branch's nodes, in order. -/
def Tr.ino : Tr → List Nd
  | .lf => []
  | .nd id l a b c r => l.ino ++ ⟨id, a, b, c⟩ :: r.ino
def Tr.ids (T : Tr) : List Nat := T.ino.map Nd.id
def Tr.lft : Tr → Tr
  | .lf => .lf
  | .nd _ l _ _ _ _ => l
def Tr.rgt : Tr → Tr
  | .lf => .lf
  | .nd _ _ _ _ _ r => r
/-- The branch lies in the places. -/
def Rep (ps : List Pl) : Tr → Prop
  | .lf => True
  | .nd id l a b c r => 0 < id ∧ (∃ nx, ps[id]? = some ⟨true, nx, l.id, r.id, (1 + ((max l.ht r.ht : Nat) : Int)), a, b, c⟩) ∧ Rep ps l ∧ Rep ps r
def Zero (ps : List Pl) : Prop := ∀ p, ps[0]? = some p → p.live = false
/-- Just those places are changed. -/
structure Fr (ps ps' : List Pl) (I : List Nat) : Prop where
  len : ps'.length = ps.length
  get : ∀ j, j ∉ I → ps'[j]? = ps[j]?
  nx : ∀ j : Nat, (ps'[j]?).map Pl.next = (ps[j]?).map Pl.next
theorem ids_nd {id : Nat} {l r : Tr} {a b c : Int} : (Tr.nd id l a b c r).ids = l.ids ++ id :: r.ids := by simp [Tr.ids, Tr.ino]
theorem ids_lf : Tr.lf.ids = [] := rfl
theorem Rep.frame {ps ps' : List Pl} : ∀ {T : Tr}, Rep ps T → (∀ j, j ∈ T.ids → ps'[j]? = ps[j]?) → Rep ps' T
  | .lf, _, _ => trivial
  | .nd id l a b c r, h, hf => by
    obtain ⟨h1, ⟨nx, h2⟩, h3, h4⟩ := h
    refine ⟨h1, ⟨nx, ?_⟩, h3.frame fun j hj => hf j ?_, h4.frame fun j hj => hf j ?_⟩
    · rw [hf id (by simp [ids_nd]), h2]
    · simp [ids_nd, hj]
    · simp [ids_nd, hj]
theorem Rep.fr {ps ps' : List Pl} {T : Tr} {I : List Nat} (h : Rep ps T) (f : Fr ps ps' I) (d : ∀ j, j ∈ T.ids → j ∉ I) : Rep ps' T := h.frame fun j hj => f.get j (d j hj)
theorem Fr.mono {ps ps' : List Pl} {I J : List Nat} (f : Fr ps ps' I) (h : ∀ j, j ∈ I → j ∈ J) : Fr ps ps' J := ⟨f.len, fun j hj => f.get j fun hi => hj (h j hi), f.nx⟩
theorem Fr.trans {ps ps' ps2 : List Pl} {I : List Nat} (f : Fr ps ps' I) (g : Fr ps' ps2 I) : Fr ps ps2 I := ⟨g.len.trans f.len, fun j hj => (g.get j hj).trans (f.get j hj), fun j => (g.nx j).trans (f.nx j)⟩
theorem Fr.refl (ps : List Pl) (I : List Nat) : Fr ps ps I := ⟨rfl, fun _ _ => rfl, fun _ => rfl⟩
theorem Fr.set {ps : List Pl} {id : Nat} {p0 : Pl} (h : ps[id]? = some p0) (p : Pl) (e : p.next = p0.next) : Fr ps (ps.set id p) [id] := ⟨by simp, fun j hj => List.getElem?_set_ne (fun e => hj (by simp [e])), fun j => by
  rw [List.getElem?_set]
  by_cases hj : id = j
  · subst hj; rw [if_pos rfl, if_pos (List.getElem?_eq_some_iff.1 h).1, h]; simp [e]
  · rw [if_neg hj]⟩
theorem Fr.zero {ps ps' : List Pl} {I : List Nat} (f : Fr ps ps' I) (h : Zero ps) (h0 : 0 ∉ I) : Zero ps' := fun p hp => h p (by rw [← f.get 0 h0]; exact hp)
theorem Rep.pos {ps : List Pl} : ∀ {T : Tr}, Rep ps T → ∀ j, j ∈ T.ids → 0 < j ∧ j < ps.length
  | .lf, _, j, hj => by simp [ids_lf] at hj
  | .nd id l a b c r, h, j, hj => by
    obtain ⟨h1, ⟨nx, h2⟩, h3, h4⟩ := h
    simp only [ids_nd, List.mem_append, List.mem_cons] at hj
    rcases hj with hj | rfl | hj
    · exact h3.pos j hj
    · exact ⟨h1, (List.getElem?_eq_some_iff.1 h2).1⟩
    · exact h4.pos j hj
theorem Rep.same_ht {ps : List Pl} : ∀ {l r : Tr}, Rep ps l → Rep ps r → l.id = r.id → l.ht = r.ht
  | .lf, .lf, _, _, _ => rfl
  | .lf, .nd id _ _ _ _ _, _, h, e => by have := h.1; simp only [Tr.id] at e; omega
  | .nd id _ _ _ _ _, .lf, h, _, e => by have := h.1; simp only [Tr.id] at e; omega
  | .nd id l a b c r, .nd id2 l2 a2 b2 c2 r2, h, h2, e => by
    simp only [Tr.id] at e
    subst e
    obtain ⟨_, ⟨nx, h3⟩, _, _⟩ := h
    obtain ⟨_, ⟨nx2, h4⟩, _, _⟩ := h2
    rw [h3] at h4
    simp only [Option.some.injEq, Pl.mk.injEq] at h4
    simp only [Tr.ht]; omega
theorem ht_le (T : Tr) : T.ht ≤ T.ids.length := by
  induction T with
  | lf => simp [Tr.ht]
  | nd id l a b c r h1 h2 => simp only [Tr.ht, ids_nd, List.length_append, List.length_cons]; omega
/-! ### Turns -/
def rotR : Tr → Tr
  | .nd id (.nd up l a2 b2 c2 r) a b c R => .nd up l a2 b2 c2 (.nd id r a b c R)
  | T => T
def rotL : Tr → Tr
  | .nd id L a b c (.nd up l a2 b2 c2 r) => .nd up (.nd id L a b c l) a2 b2 c2 r
  | T => T
def bal (id : Nat) (L : Tr) (a b c : Int) (R : Tr) : Tr :=
  if R.ht + 1 < L.ht then rotR (.nd id (if L.lft.ht < L.rgt.ht then rotL L else L) a b c R)
  else if L.ht + 1 < R.ht then rotL (.nd id L a b c (if R.rgt.ht < R.lft.ht then rotR R else R))
  else .nd id L a b c R
theorem rotR_ino (T : Tr) : (rotR T).ino = T.ino := by
  unfold rotR; split
  · simp [Tr.ino]
  · rfl
theorem rotL_ino (T : Tr) : (rotL T).ino = T.ino := by
  unfold rotL; split
  · simp [Tr.ino]
  · rfl
theorem bal_ino (id : Nat) (L : Tr) (a b c : Int) (R : Tr) : (bal id L a b c R).ino = L.ino ++ ⟨id, a, b, c⟩ :: R.ino := by
  unfold bal; split
  · rw [rotR_ino]; simp only [Tr.ino]; split
    · rw [rotL_ino]
    · rfl
  · split
    · rw [rotL_ino]; simp only [Tr.ino]; split
      · rw [rotR_ino]
      · rfl
    · rfl
theorem bal_ids (id : Nat) (L : Tr) (a b c : Int) (R : Tr) : (bal id L a b c R).ids = L.ids ++ id :: R.ids := by simp [Tr.ids, bal_ino]
/-- Nowhere is a branch higher than its neighbour by more than one. -/
def Avl : Tr → Prop
  | .lf => True
  | .nd _ l _ _ _ r => l.ht ≤ r.ht + 1 ∧ r.ht ≤ l.ht + 1 ∧ Avl l ∧ Avl r
theorem bal_avl {id : Nat} {L R : Tr} {a b c : Int} (hL : Avl L) (hR : Avl R) (h1 : L.ht ≤ R.ht + 2) (h2 : R.ht ≤ L.ht + 2) :
    Avl (bal id L a b c R) ∧ (bal id L a b c R).ht ≤ 1 + max L.ht R.ht ∧ max L.ht R.ht ≤ (bal id L a b c R).ht ∧ (L.ht ≤ R.ht + 1 → R.ht ≤ L.ht + 1 → (bal id L a b c R).ht = 1 + max L.ht R.ht) := by
  unfold bal; split
  · next h =>
    cases L with
    | lf => simp [Tr.ht] at h
    | nd i1 l1 x y z r1 =>
      by_cases h3 : (Tr.nd i1 l1 x y z r1).lft.ht < (Tr.nd i1 l1 x y z r1).rgt.ht
      · rw [if_pos h3]; simp only [Tr.lft, Tr.rgt] at h3
        cases r1 with
        | lf => simp [Tr.ht] at h3
        | nd i2 l2 x2 y2 z2 r2 =>
          simp only [rotL, rotR, Avl, Tr.ht] at *
          refine ⟨⟨?_, ?_, ⟨?_, ?_, ?_, ?_⟩, ⟨?_, ?_, ?_, ?_⟩⟩, ?_, ?_, fun h8 _ => absurd h8 ?_⟩ <;> first | omega | simp only [hL, hR, and_self] | (obtain ⟨_, _, q1, _, _, q2, q3⟩ := hL; first | exact q1 | exact q2 | exact q3)
      · rw [if_neg h3]; simp only [Tr.lft, Tr.rgt] at h3
        simp only [rotR, Avl, Tr.ht] at *
        refine ⟨⟨?_, ?_, ?_, ⟨?_, ?_, ?_, ?_⟩⟩, ?_, ?_, fun h8 _ => absurd h8 ?_⟩ <;> first | omega | simp only [hL, hR, and_self]
  · next h =>
    split
    · next h0 =>
      cases R with
      | lf => simp [Tr.ht] at h0
      | nd i1 l1 x y z r1 =>
        by_cases h3 : (Tr.nd i1 l1 x y z r1).rgt.ht < (Tr.nd i1 l1 x y z r1).lft.ht
        · rw [if_pos h3]; simp only [Tr.lft, Tr.rgt] at h3
          cases l1 with
          | lf => simp [Tr.ht] at h3
          | nd i2 l2 x2 y2 z2 r2 =>
            simp only [rotL, rotR, Avl, Tr.ht] at *
            refine ⟨⟨?_, ?_, ⟨?_, ?_, ?_, ?_⟩, ⟨?_, ?_, ?_, ?_⟩⟩, ?_, ?_, fun _ h8 => absurd h8 ?_⟩ <;> first | omega | simp only [hL, hR, and_self] | (obtain ⟨_, _, ⟨_, _, q1, q2⟩, q3⟩ := hR; first | exact q1 | exact q2 | exact q3)
        · rw [if_neg h3]; simp only [Tr.lft, Tr.rgt] at h3
          simp only [rotL, Avl, Tr.ht] at *
          refine ⟨⟨?_, ?_, ⟨?_, ?_, ?_, ?_⟩, ?_⟩, ?_, ?_, fun _ h8 => absurd h8 ?_⟩ <;> first | omega | simp only [hL, hR, and_self]
    · simp only [Avl, Tr.ht]
      exact ⟨⟨by omega, by omega, hL, hR⟩, Nat.le_refl _, by omega, fun _ _ => trivial⟩
/-! ### In and out -/
def ins (k : Nat) (a b c : Int) : Tr → Tr
  | .lf => .nd k .lf a b c .lf
  | .nd id l x y z r => if a < x then bal id (ins k a b c l) x y z r else bal id l x y z (ins k a b c r)
def minT : Tr → Nd
  | .lf => ⟨0, 0, 0, 0⟩
  | .nd id .lf a b c _ => ⟨id, a, b, c⟩
  | .nd _ l _ _ _ _ => minT l
def delMin : Tr → Tr
  | .lf => .lf
  | .nd _ .lf _ _ _ r => r
  | .nd id l a b c r => bal id (delMin l) a b c r
def rem (k : Int) : Tr → Tr
  | .lf => .lf
  | .nd id l x y z r => if k < x then bal id (rem k l) x y z r else if x < k then bal id l x y z (rem k r) else
    match l, r with
    | .lf, _ => r
    | _, .lf => l
    | _, _ => bal (minT r).id l (minT r).a (minT r).b (minT r).c (delMin r)
theorem ins_avl (k : Nat) (a b c : Int) : ∀ T, Avl T → Avl (ins k a b c T) ∧ T.ht ≤ (ins k a b c T).ht ∧ (ins k a b c T).ht ≤ T.ht + 1
  | .lf, _ => by simp [ins, Avl, Tr.ht]
  | .nd id l x y z r, ⟨h1, h2, h3, h4⟩ => by
    simp only [ins]; split
    · obtain ⟨i1, i2, i3⟩ := ins_avl k a b c l h3
      obtain ⟨b1, b2, b3, b4⟩ := bal_avl (id := id) (a := x) (b := y) (c := z) i1 h4 (by omega) (by omega)
      refine ⟨b1, ?_, ?_⟩ <;> simp only [Tr.ht] at *
      · by_cases h : (ins k a b c l).ht ≤ r.ht + 1
        · rw [b4 h (by omega)]; omega
        · omega
      · omega
    · obtain ⟨i1, i2, i3⟩ := ins_avl k a b c r h4
      obtain ⟨b1, b2, b3, b4⟩ := bal_avl (id := id) (a := x) (b := y) (c := z) h3 i1 (by omega) (by omega)
      refine ⟨b1, ?_, ?_⟩ <;> simp only [Tr.ht] at *
      · by_cases h : (ins k a b c r).ht ≤ l.ht + 1
        · rw [b4 (by omega) h]; omega
        · omega
      · omega
theorem delMin_avl : ∀ T, Avl T → Avl (delMin T) ∧ (delMin T).ht ≤ T.ht ∧ T.ht ≤ (delMin T).ht + 1
  | .lf, _ => by simp [delMin, Avl, Tr.ht]
  | .nd id .lf x y z r, ⟨h1, h2, h3, h4⟩ => by
    simp only [delMin, Tr.ht] at *
    exact ⟨h4, by omega, by omega⟩
  | .nd id (.nd i l a b c r0) x y z r, ⟨h1, h2, h3, h4⟩ => by
    simp only [delMin]
    obtain ⟨i1, i2, i3⟩ := delMin_avl (.nd i l a b c r0) h3
    obtain ⟨b1, b2, b3, b4⟩ := bal_avl (id := id) (a := x) (b := y) (c := z) i1 h4 (by omega) (by omega)
    refine ⟨b1, ?_, ?_⟩ <;> simp only [Tr.ht] at *
    · omega
    · by_cases h : r.ht ≤ (delMin (.nd i l a b c r0)).ht + 1
      · rw [b4 (by omega) h]; omega
      · omega
theorem rem_avl (k : Int) : ∀ T, Avl T → Avl (rem k T) ∧ (rem k T).ht ≤ T.ht ∧ T.ht ≤ (rem k T).ht + 1
  | .lf, _ => by simp [rem, Avl, Tr.ht]
  | .nd id l x y z r, ⟨h1, h2, h3, h4⟩ => by
    simp only [rem]; split
    · obtain ⟨i1, i2, i3⟩ := rem_avl k l h3
      obtain ⟨b1, b2, b3, b4⟩ := bal_avl (id := id) (a := x) (b := y) (c := z) i1 h4 (by omega) (by omega)
      refine ⟨b1, ?_, ?_⟩ <;> simp only [Tr.ht] at *
      · omega
      · by_cases h : r.ht ≤ (rem k l).ht + 1
        · rw [b4 (by omega) h]; omega
        · omega
    · split
      · obtain ⟨i1, i2, i3⟩ := rem_avl k r h4
        obtain ⟨b1, b2, b3, b4⟩ := bal_avl (id := id) (a := x) (b := y) (c := z) h3 i1 (by omega) (by omega)
        refine ⟨b1, ?_, ?_⟩ <;> simp only [Tr.ht] at *
        · omega
        · by_cases h : l.ht ≤ (rem k r).ht + 1
          · rw [b4 h (by omega)]; omega
          · omega
      · split
        · simp only [Tr.ht] at *; exact ⟨h4, by omega, by omega⟩
        · simp only [Tr.ht] at *; exact ⟨h3, by omega, by omega⟩
        · obtain ⟨i1, i2, i3⟩ := delMin_avl r h4
          obtain ⟨b1, b2, b3, b4⟩ := bal_avl (id := (minT r).id) (a := (minT r).a) (b := (minT r).b) (c := (minT r).c) h3 i1 (by omega) (by omega)
          refine ⟨b1, ?_, ?_⟩ <;> simp only [Tr.ht] at *
          · omega
          · by_cases h : l.ht ≤ (delMin r).ht + 1
            · rw [b4 h (by omega)]; omega
            · omega
/-! ### What stands in a branch -/
def insL (n : Nd) : List Nd → List Nd
  | [] => [n]
  | x :: l => if n.a < x.a then n :: x :: l else x :: insL n l
def remL (k : Int) (l : List Nd) : List Nd := l.filter fun x => x.a != k
/-- Strictly rising. -/
def Srt (l : List Nd) : Prop := l.Pairwise fun x y => x.a < y.a
theorem insL_app {n : Nd} {l : List Nd} {x : Nd} {r : List Nd} (hs : Srt (l ++ x :: r)) (h : n.a < x.a) : insL n (l ++ x :: r) = insL n l ++ x :: r := by
  induction l with
  | nil => simp [insL, h]
  | cons y l ih =>
    simp only [List.cons_append, insL]
    split
    · rfl
    · rw [ih (List.pairwise_cons.1 hs).2]; rfl
theorem insL_app2 {n : Nd} {l : List Nd} {x : Nd} {r : List Nd} (hs : Srt (l ++ x :: r)) (h : ¬ n.a < x.a) : insL n (l ++ x :: r) = l ++ x :: insL n r := by
  induction l with
  | nil => simp [insL, h]
  | cons y l ih =>
    simp only [List.cons_append, insL]
    have : y.a < x.a := (List.pairwise_cons.1 hs).1 x (by simp)
    rw [if_neg (by omega), ih (List.pairwise_cons.1 hs).2]
theorem ins_ino (k : Nat) (a b c : Int) : ∀ T : Tr, Srt T.ino → (ins k a b c T).ino = insL ⟨k, a, b, c⟩ T.ino
  | .lf, _ => rfl
  | .nd id l x y z r, h => by
    have hs : Srt (l.ino ++ ⟨id, x, y, z⟩ :: r.ino) := h
    have h' := List.pairwise_append.1 hs
    simp only [ins]; split
    · next hx => rw [bal_ino, ins_ino k a b c l h'.1]; simp only [Tr.ino]; rw [insL_app hs hx]
    · next hx => rw [bal_ino, ins_ino k a b c r (List.pairwise_cons.1 h'.2.1).2]; simp only [Tr.ino]; rw [insL_app2 hs hx]
theorem min_ino : ∀ T : Tr, T ≠ .lf → T.ino = minT T :: (delMin T).ino
  | .lf, h => absurd rfl h
  | .nd id .lf x y z r, _ => by simp [Tr.ino, minT, delMin]
  | .nd id (.nd i l a b c r0) x y z r, _ => by
    have := min_ino (.nd i l a b c r0) (by simp)
    show (Tr.nd i l a b c r0).ino ++ _ = minT (.nd i l a b c r0) :: (bal id (delMin (.nd i l a b c r0)) x y z r).ino
    rw [bal_ino, this]; rfl
theorem remL_app (k : Int) (l r : List Nd) : remL k (l ++ r) = remL k l ++ remL k r := List.filter_append ..
theorem remL_no {k : Int} {l : List Nd} (h : ∀ x ∈ l, x.a ≠ k) : remL k l = l := List.filter_eq_self.2 fun x hx => by simpa using h x hx
theorem rem_ino (k : Int) : ∀ T : Tr, Srt T.ino → (rem k T).ino = remL k T.ino
  | .lf, _ => rfl
  | .nd id l x y z r, h => by
    have hs : Srt (l.ino ++ ⟨id, x, y, z⟩ :: r.ino) := h
    obtain ⟨s1, s2, s3⟩ := List.pairwise_append.1 hs
    obtain ⟨s4, s5⟩ := List.pairwise_cons.1 s2
    have lx : ∀ q ∈ l.ino, q.a < x := fun q hq => s3 q hq ⟨id, x, y, z⟩ (by simp)
    have rx : ∀ q ∈ r.ino, x < q.a := fun q hq => s4 q hq
    have cons' : ∀ t : List Nd, x ≠ k → remL k (⟨id, x, y, z⟩ :: t) = ⟨id, x, y, z⟩ :: remL k t := fun t hx => by
      simp only [remL]; rw [List.filter_cons_of_pos]; simpa using hx
    simp only [rem]; split
    · next hx =>
      rw [bal_ino, rem_ino k l s1]; simp only [Tr.ino]
      rw [remL_app, cons' _ (by omega), remL_no (l := r.ino) fun q hq => by have := rx q hq; omega]
    · split
      · next hx =>
        rw [bal_ino, rem_ino k r s5]; simp only [Tr.ino]
        rw [remL_app, cons' _ (by omega), remL_no (l := l.ino) fun q hq => by have := lx q hq; omega]
      · have e : x = k := by omega
        have hr : remL k (l.ino ++ ⟨id, x, y, z⟩ :: r.ino) = l.ino ++ r.ino := by
          rw [remL_app, remL_no (l := l.ino) fun q hq => by have := lx q hq; omega]
          congr 1
          simp only [remL]; rw [List.filter_cons_of_neg (by simp [e])]
          exact remL_no fun q hq => by have := rx q hq; omega
        simp only [Tr.ino]; rw [hr]
        split
        · rfl
        · simp [Tr.ino]
        · next h1 h2 =>
          rw [bal_ino, min_ino r (by rintro rfl; exact h2 rfl)]
end Go.Proofs.Ytpogfelbimcglaa.Am

