/- What a change makes of a map, in plain Lean. Conditions: those of each theorem. -/
import Derived.Test.YtdeeancepelkiaaRu8
namespace Go.Proofs.Ytdeeancepelkiaa.Am
open Go.Proofs
set_option maxRecDepth 1000000
set_option maxHeartbeats 4000000
set_option linter.unusedSimpArgs false
set_option linter.unusedVariables false
structure LI (cap : Int) (P F : List Rn) : Prop where
  rg : ∀ f ∈ F, RG cap f
  lf : ∀ f ∈ F, ∃ g ∈ P, f.a = g.a ∧ f.c = g.c
  rt : ∀ f ∈ F, ∃ g ∈ P, f.a + f.b = g.a + g.b ∧ f.c + f.b = g.c + g.b
  gap : F.Pairwise fun x y => x.a + x.b ≤ y.a
  nj : ∀ x ∈ F, ∀ y ∈ F, ¬ J x y
  pg : ∀ x p, PG F x p ↔ PG P x p
theorem PG_app {A B : List Rn} {x p : Int} : PG (A ++ B) x p ↔ PG A x p ∨ PG B x p := by
  simp only [PG, List.mem_append]
  constructor
  · rintro ⟨r, h | h, c⟩
    · exact .inl ⟨r, h, c⟩
    · exact .inr ⟨r, h, c⟩
  · rintro (⟨r, h, c⟩ | ⟨r, h, c⟩)
    · exact ⟨r, .inl h, c⟩
    · exact ⟨r, .inr h, c⟩
theorem PG_one {r : Rn} {x p : Int} : PG [r] x p ↔ Cov r x p := by simp [PG]
theorem LI.nil (cap : Int) : LI cap [] [] := ⟨by simp, by simp, by simp, List.Pairwise.nil, by simp, fun _ _ => Iff.rfl⟩
theorem not_jn {q r : Rn} (h : ¬ jn q r = true) : ¬ J q r := fun hj => h (decide_eq_true ⟨hj.1, hj.2⟩)
theorem LI.step {cap : Int} {P F : List Rn} {r : Rn} (h : LI cap P F) (hr : RG cap r) (hP : ∀ g ∈ P, g.a + g.b ≤ r.a) : LI cap (P ++ [r]) (layS F (some r)) := by
  have hb := hr.b1
  have fe : ∀ f ∈ F, f.a + f.b ≤ r.a := fun f hf => by obtain ⟨g, hg, e1, _⟩ := h.rt f hf; have := hP g hg; omega
  rcases List.eq_nil_or_concat F with e | ⟨F0, q, e⟩
  · subst e
    refine ⟨by simpa [layS] using hr, by simp [layS], by simp [layS], by simp [layS], ?_, fun x p => ?_⟩
    · simp only [layS, List.length_nil, List.getElem?_nil, List.nil_append, List.mem_singleton]
      rintro x rfl y rfl hj; have := hj.1; omega
    · have hp := h.pg x p
      simp only [layS, List.length_nil, List.getElem?_nil, List.nil_append]
      rw [PG_app, ← hp]; simp [PG]
  · rw [List.concat_eq_append] at e
    subst e
    have hq : (F0 ++ [q])[(F0 ++ [q]).length - 1]? = some q := by simp
    have qe := fe q (by simp)
    have qg := h.rg q (by simp)
    obtain ⟨g1, g2, g3⟩ := List.pairwise_append.1 h.gap
    by_cases hj : jn q r = true
    · obtain ⟨j1, j2⟩ : q.a + q.b = r.a ∧ q.c + q.b = r.c := of_decide_eq_true hj
      have e : layS (F0 ++ [q]) (some r) = F0 ++ [⟨q.a, q.b + r.b, q.c⟩] := by
        simp only [layS, hq, hj, if_true]
        simp
      rw [e]
      have b1 := qg.b1
      refine ⟨fun f hf => ?_, fun f hf => ?_, fun f hf => ?_, ?_, fun x hx y hy => ?_, fun x p => ?_⟩
      · rcases List.mem_append.1 hf with hf | hf
        · exact h.rg f (by simp [hf])
        · obtain rfl := List.mem_singleton.1 hf
          exact ⟨qg.a0, by simp only; omega, by have := hr.e1; simp only; omega, qg.c0, by have := hr.c1; simp only; omega⟩
      · rcases List.mem_append.1 hf with hf | hf
        · obtain ⟨g, hg, e⟩ := h.lf f (by simp [hf]); exact ⟨g, by simp [hg], e⟩
        · obtain rfl := List.mem_singleton.1 hf
          obtain ⟨g, hg, e⟩ := h.lf q (by simp); exact ⟨g, by simp [hg], e⟩
      · rcases List.mem_append.1 hf with hf | hf
        · obtain ⟨g, hg, e⟩ := h.rt f (by simp [hf]); exact ⟨g, by simp [hg], e⟩
        · obtain rfl := List.mem_singleton.1 hf
          exact ⟨r, by simp, by simp only; omega, by simp only; omega⟩
      · exact List.pairwise_append.2 ⟨g1, by simp, fun x hx y hy => by obtain rfl := List.mem_singleton.1 hy; exact g3 x hx q (by simp)⟩
      · intro hJ
        rcases List.mem_append.1 hx with hx | hx <;> rcases List.mem_append.1 hy with hy | hy
        · exact h.nj x (by simp [hx]) y (by simp [hy]) hJ
        · obtain rfl := List.mem_singleton.1 hy
          exact h.nj x (by simp [hx]) q (by simp) hJ
        · obtain rfl := List.mem_singleton.1 hx
          have := g3 y hy q (by simp); have := hJ.1; have := (h.rg y (by simp [hy])).b1; simp only at *; omega
        · obtain rfl := List.mem_singleton.1 hx
          obtain rfl := List.mem_singleton.1 hy
          have := hJ.1; simp only at this; omega
      · have hp := h.pg x p
        rw [PG_app, PG_one] at hp
        rw [PG_app, PG_one, PG_app, PG_one, ← hp]
        have : Cov ⟨q.a, q.b + r.b, q.c⟩ x p ↔ Cov q x p ∨ Cov r x p := by
          simp only [Cov]; omega
        rw [this, or_assoc]
    · have e : layS (F0 ++ [q]) (some r) = F0 ++ [q] ++ [r] := by
        have hj' : jn q r = false := by simpa using hj
        simp only [layS, hq, hj', Bool.false_eq_true, if_false]
      rw [e]
      refine ⟨fun f hf => ?_, fun f hf => ?_, fun f hf => ?_, ?_, fun x hx y hy => ?_, fun x p => ?_⟩
      · rcases List.mem_append.1 hf with hf | hf
        · exact h.rg f hf
        · obtain rfl := List.mem_singleton.1 hf; exact hr
      · rcases List.mem_append.1 hf with hf | hf
        · obtain ⟨g, hg, e⟩ := h.lf f hf; exact ⟨g, by simp [hg], e⟩
        · obtain rfl := List.mem_singleton.1 hf; exact ⟨f, by simp, rfl, rfl⟩
      · rcases List.mem_append.1 hf with hf | hf
        · obtain ⟨g, hg, e⟩ := h.rt f hf; exact ⟨g, by simp [hg], e⟩
        · obtain rfl := List.mem_singleton.1 hf; exact ⟨f, by simp, rfl, rfl⟩
      · exact List.pairwise_append.2 ⟨h.gap, by simp, fun x hx y hy => by obtain rfl := List.mem_singleton.1 hy; exact fe x hx⟩
      · intro hJ
        rcases List.mem_append.1 hx with hx1 | hx1 <;> rcases List.mem_append.1 hy with hy1 | hy1
        · exact h.nj x hx1 y hy1 hJ
        · have ey := List.mem_singleton.1 hy1
          rw [ey] at hJ
          rcases List.mem_append.1 hx1 with hx2 | hx2
          · have := g3 x hx2 q (by simp); have := hJ.1; have := qg.b1; omega
          · have ex := List.mem_singleton.1 hx2
            rw [ex] at hJ; exact not_jn hj hJ
        · have ex := List.mem_singleton.1 hx1
          rw [ex] at hJ
          have := fe y hy1; have := hJ.1; have := (h.rg y hy1).b1; omega
        · have ex := List.mem_singleton.1 hx1
          have ey := List.mem_singleton.1 hy1
          rw [ex, ey] at hJ
          have := hJ.1; omega
      · rw [PG_app, PG_app (A := P), h.pg]
theorem LI.skip {cap : Int} {P F : List Rn} (h : LI cap P F) : LI cap P (layS F none) := h
/-- The runs in the place of those that a range touches. -/
structure FS (cap : Int) (L : List Rn) (lba n : Int) (W : Int → Int → Prop) (F : List Rn) : Prop where
  rg : ∀ f ∈ F, RG cap f
  left : ∀ f ∈ F, lba ≤ f.a ∨ ∃ r ∈ L, Tch lba n r ∧ r.a < lba ∧ f.a = r.a ∧ f.c = r.c
  right : ∀ f ∈ F, f.a + f.b ≤ lba + n ∨ ∃ r ∈ L, Bhd lba n r ∧ f.a + f.b = r.a + r.b ∧ f.c + f.b = r.c + r.b
  gap : F.Pairwise fun x y => x.a + x.b ≤ y.a
  nj : ∀ x ∈ F, ∀ y ∈ F, ¬ J x y
  pg : ∀ x p, PG F x p ↔ (lba ≤ x ∧ x < lba + n ∧ W x p) ∨ ((x < lba ∨ lba + n ≤ x) ∧ ∃ r ∈ L, Tch lba n r ∧ Cov r x p)
def opL (o : Option Rn) : List Rn := match o with
  | none => []
  | some r => [r]
theorem LI.fs {cap : Int} {L : List Rn} {lba n : Int} {o : List Rn} {ah be : Option Rn} {W : Int → Int → Prop} {V F : List Rn} (hL : NF cap L) (hn : 1 ≤ n) (C : CutOK L lba n o ah be) (hV : ∀ v ∈ V, lba ≤ v.a ∧ v.a + v.b ≤ lba + n) (hW : ∀ x p, PG V x p ↔ lba ≤ x ∧ x < lba + n ∧ W x p)
    (h : LI cap (opL ah ++ V ++ opL be) F) : FS cap L lba n W F := by
  have hA : ∀ g ∈ opL ah, g.a + g.b = lba ∧ ∃ r ∈ L, Tch lba n r ∧ r.a < lba ∧ g.a = r.a ∧ g.c = r.c := by
    intro g hg
    rcases C.ah with ⟨e, _⟩ | ⟨r, hr, r1, r2, e⟩
    · rw [e] at hg; simp [opL] at hg
    · rw [e] at hg
      obtain rfl := List.mem_singleton.1 hg
      exact ⟨by simp only; omega, r, hr, ⟨r2, by omega⟩, r1, rfl, rfl⟩
  have hB : ∀ g ∈ opL be, g.a = lba + n ∧ ∃ r ∈ L, Bhd lba n r ∧ g.a + g.b = r.a + r.b ∧ g.c + g.b = r.c + r.b := by
    intro g hg
    rcases C.be with ⟨e, _⟩ | ⟨r, hr, r1, e⟩
    · rw [e] at hg; simp [opL] at hg
    · rw [e] at hg
      obtain rfl := List.mem_singleton.1 hg
      exact ⟨by simp only [offR]; omega, r, hr, r1, by simp only [offR]; omega, by simp only [offR]; omega⟩
  refine ⟨h.rg, fun f hf => ?_, fun f hf => ?_, h.gap, h.nj, fun x p => ?_⟩
  · obtain ⟨g, hg, e1, e2⟩ := h.lf f hf
    rcases List.mem_append.1 hg with hg | hg
    · rcases List.mem_append.1 hg with hg | hg
      · obtain ⟨_, r, hr, t, r1, e3, e4⟩ := hA g hg
        exact .inr ⟨r, hr, t, r1, e1.trans e3, e2.trans e4⟩
      · have := hV g hg; exact .inl (by omega)
    · have := (hB g hg).1; exact .inl (by omega)
  · obtain ⟨g, hg, e1, e2⟩ := h.rt f hf
    rcases List.mem_append.1 hg with hg | hg
    · rcases List.mem_append.1 hg with hg | hg
      · have := (hA g hg).1; exact .inl (by omega)
      · have := hV g hg; exact .inl (by omega)
    · obtain ⟨_, r, hr, t, e3, e4⟩ := hB g hg
      exact .inr ⟨r, hr, t, e1.trans e3, e2.trans e4⟩
  · rw [h.pg, PG_app, PG_app, hW]
    have pA : PG (opL ah) x p ↔ x < lba ∧ ∃ r ∈ L, Tch lba n r ∧ Cov r x p := by
      rcases C.ah with ⟨e, hno⟩ | ⟨r, hr, r1, r2, e⟩
      · rw [e]
        constructor
        · rintro ⟨g, hg, _⟩; simp [opL] at hg
        · rintro ⟨hx, q, hq, t, c⟩; exact absurd ⟨by have := c.1; omega, t.1⟩ (hno q hq)
      · rw [e]; simp only [opL, PG_one]
        constructor
        · rintro ⟨c1, c2, c3⟩
          simp only at c1 c2 c3
          exact ⟨by omega, r, hr, ⟨r2, by omega⟩, c1, by omega, c3⟩
        · rintro ⟨hx, q, hq, t, c⟩
          have : q = r := by
            rcases hL.apart hq hr with e | e | e
            · exact e
            · have := t.1; omega
            · have := c.1; omega
          subst this
          exact ⟨c.1, by simp only; omega, c.2.2⟩
    have pB : PG (opL be) x p ↔ lba + n ≤ x ∧ ∃ r ∈ L, Tch lba n r ∧ Cov r x p := by
      rcases C.be with ⟨e, hno⟩ | ⟨r, hr, r1, e⟩
      · rw [e]
        constructor
        · rintro ⟨g, hg, _⟩; simp [opL] at hg
        · rintro ⟨hx, q, hq, t, c⟩; exact absurd ⟨t.2, by have := c.2.1; omega⟩ (hno q hq)
      · rw [e]; simp only [opL, PG_one]
        constructor
        · rintro ⟨c1, c2, c3⟩
          simp only [offR] at c1 c2 c3
          refine ⟨by omega, r, hr, ⟨?_, r1.1⟩, ?_, by omega, by omega⟩
          · have := r1.2; omega
          · have := r1.1; omega
        · rintro ⟨hx, q, hq, t, c⟩
          have : q = r := by
            have b1 := (hL.rg q hq).b1
            rcases hL.apart hq hr with e | e | e
            · exact e
            · have := c.2.1; have := r1.1; omega
            · have := t.2; have := r1.2; omega
          subst this
          exact ⟨by simp only [offR]; omega, by simp only [offR]; have := c.2.1; omega, by simp only [offR]; have := c.2.2; omega⟩
    rw [pA, pB]
    constructor
    · rintro ((⟨h1, h2⟩ | h1) | ⟨h1, h2⟩)
      · exact .inr ⟨.inl h1, h2⟩
      · exact .inl h1
      · exact .inr ⟨.inr h1, h2⟩
    · rintro (h1 | ⟨h1 | h1, h2⟩)
      · exact .inl (.inr h1)
      · exact .inl (.inl ⟨h1, h2⟩)
      · exact .inr ⟨h1, h2⟩
/-- What a change makes of a map. -/
theorem FS.nf {cap : Int} {L M : List Rn} {lba n : Int} {W : Int → Int → Prop} {F : List Rn} (hL : NF cap L) (hn : 1 ≤ n) (h : FS cap L lba n W F) (hs : SrtR M) (hm : ∀ r, r ∈ M ↔ (r ∈ L ∧ ¬ Tch lba n r) ∨ r ∈ F) :
    NF cap M ∧ ∀ x p, PG M x p ↔ (lba ≤ x ∧ x < lba + n ∧ W x p) ∨ ((x < lba ∨ lba + n ≤ x) ∧ PG L x p) := by
  have hg : ∀ x ∈ M, RG cap x := fun x hx => by
    rcases (hm x).1 hx with ⟨h1, _⟩ | h1
    · exact hL.rg x h1
    · exact h.rg x h1
  have lf : ∀ x ∈ L, ¬ Tch lba n x → ∀ f ∈ F, x.a + x.b ≤ f.a ∧ ¬ J x f ∨ f.a + f.b ≤ x.a ∧ ¬ J f x := fun x hx ht f hf => by
    have bx := (hL.rg x hx).b1
    have bf := (h.rg f hf).b1
    by_cases hlt : x.a + x.b < lba
    · left
      rcases h.left f hf with h1 | ⟨r, hr, t, r1, e1, e2⟩
      · exact ⟨by omega, fun hj => by have := hj.1; omega⟩
      · have t1 := t.1
        rcases hL.apart hx hr with e | e | e
        · subst e; omega
        · exact ⟨by omega, fun hj => hL.nj x hx r hr ⟨by have := hj.1; omega, by have := hj.2; omega⟩⟩
        · omega
    · have hgt : lba + n < x.a := by
        rcases Int.lt_or_le (lba + n) x.a with h1 | h1
        · exact h1
        · exact absurd ⟨by omega, h1⟩ ht
      right
      rcases h.right f hf with h1 | ⟨r, hr, hB, e1, e2⟩
      · exact ⟨by omega, fun hj => by have := hj.1; omega⟩
      · have t1 := hB.1
        rcases hL.apart hx hr with e | e | e
        · subst e; omega
        · omega
        · exact ⟨by omega, fun hj => hL.nj r hr x hx ⟨by have := hj.1; omega, by have := hj.2; omega⟩⟩
  refine ⟨⟨hg, ?_, fun x hx y hy hj => ?_⟩, fun x p => ?_⟩
  · refine List.Pairwise.imp_of_mem ?_ hs
    intro x y hx hy hxy
    have bx := (hg x hx).b1
    have by_ := (hg y hy).b1
    rcases (hm x).1 hx with ⟨x1, x2⟩ | x1 <;> rcases (hm y).1 hy with ⟨y1, y2⟩ | y1
    · rcases hL.apart x1 y1 with e | e | e
      · subst e; omega
      · exact e
      · omega
    · rcases lf x x1 x2 y y1 with ⟨e, _⟩ | ⟨e, _⟩ <;> omega
    · rcases lf y y1 y2 x x1 with ⟨e, _⟩ | ⟨e, _⟩ <;> omega
    · rcases pw_cases h.gap x x1 y y1 with e | e | e
      · subst e; omega
      · exact e
      · omega
  · have bx := (hg x hx).b1
    have by_ := (hg y hy).b1
    have j1 := hj.1
    rcases (hm x).1 hx with ⟨x1, x2⟩ | x1 <;> rcases (hm y).1 hy with ⟨y1, y2⟩ | y1
    · exact hL.nj x x1 y y1 hj
    · rcases lf x x1 x2 y y1 with ⟨e, e2⟩ | ⟨e, _⟩
      · exact e2 hj
      · omega
    · rcases lf y y1 y2 x x1 with ⟨e, e2⟩ | ⟨e, e2⟩
      · omega
      · exact e2 hj
    · exact h.nj x x1 y y1 hj
  · have e : PG M x p ↔ (∃ r ∈ L, ¬ Tch lba n r ∧ Cov r x p) ∨ PG F x p := by
      constructor
      · rintro ⟨r, hr, c⟩
        rcases (hm r).1 hr with ⟨h1, h2⟩ | h1
        · exact .inl ⟨r, h1, h2, c⟩
        · exact .inr ⟨r, h1, c⟩
      · rintro (⟨r, h1, h2, c⟩ | ⟨r, h1, c⟩)
        · exact ⟨r, (hm r).2 (.inl ⟨h1, h2⟩), c⟩
        · exact ⟨r, (hm r).2 (.inr h1), c⟩
    rw [e, h.pg]
    constructor
    · rintro (⟨r, h1, h2, c⟩ | h1 | ⟨h1, r, h2, h3, c⟩)
      · refine .inr ⟨?_, r, h1, c⟩
        have c1 := c.1; have c2 := c.2.1
        by_cases hx : x < lba
        · exact .inl hx
        · right
          rcases Int.lt_or_le x (lba + n) with h3 | h3
          · exact absurd ⟨by omega, by omega⟩ h2
          · exact h3
      · exact .inl h1
      · exact .inr ⟨h1, r, h2, c⟩
    · rintro (h1 | ⟨h1, r, h2, c⟩)
      · exact .inr (.inl h1)
      · by_cases ht : Tch lba n r
        · exact .inr (.inr ⟨h1, r, h2, ht, c⟩)
        · exact .inl ⟨r, h2, ht, c⟩
end Go.Proofs.Ytdeeancepelkiaa.Am

