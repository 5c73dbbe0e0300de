/- Maps of runs in plain Lean: one form. Conditions: those of each theorem. -/
import Derived.Test.YtdeeancepelkiaaRu7
namespace Go.Proofs.Ytdeeancepelkiaa.Am
open Go.Proofs
set_option maxRecDepth 1000000
set_option maxHeartbeats 4000000
set_option linter.unusedSimpArgs false
set_option linter.unusedVariables false
def Cov (r : Rn) (x p : Int) : Prop := r.a ≤ x ∧ x < r.a + r.b ∧ p = r.c + (x - r.a)
/-- Sector x stands in page p. -/
def PG (L : List Rn) (x p : Int) : Prop := ∃ r ∈ L, Cov r x p
def J (x y : Rn) : Prop := x.a + x.b = y.a ∧ x.c + x.b = y.c
structure RG (cap : Int) (r : Rn) : Prop where
  a0 : 0 ≤ r.a
  b1 : 1 ≤ r.b
  e1 : r.a + r.b ≤ cap
  c0 : 0 ≤ r.c
  c1 : r.c + r.b ≤ 1049088
structure NF (cap : Int) (L : List Rn) : Prop where
  rg : ∀ r ∈ L, RG cap r
  gap : L.Pairwise fun x y => x.a + x.b ≤ y.a
  nj : ∀ x ∈ L, ∀ y ∈ L, ¬ J x y
theorem NF.srt {cap : Int} {L : List Rn} (h : NF cap L) : SrtR L := by
  have := h.rg
  refine List.Pairwise.imp_of_mem ?_ h.gap
  intro x y hx _ hxy
  have := (h.rg x hx).b1
  omega
theorem pw_cases {L : List Rn} {R : Rn → Rn → Prop} (h : L.Pairwise R) : ∀ x ∈ L, ∀ y ∈ L, x = y ∨ R x y ∨ R y x := by
  induction L with
  | nil => intro x hx; simp at hx
  | cons a l ih =>
    obtain ⟨h1, h2⟩ := List.pairwise_cons.1 h
    intro x hx y hy
    rcases List.mem_cons.1 hx with e | hx2
    · rcases List.mem_cons.1 hy with e2 | hy2
      · exact .inl (e.trans e2.symm)
      · exact .inr (.inl (e ▸ h1 y hy2))
    · rcases List.mem_cons.1 hy with e2 | hy2
      · exact .inr (.inr (e2 ▸ h1 x hx2))
      · exact ih h2 x hx2 y hy2
theorem NF.apart {cap : Int} {L : List Rn} (h : NF cap L) {x y : Rn} (hx : x ∈ L) (hy : y ∈ L) : x = y ∨ x.a + x.b ≤ y.a ∨ y.a + y.b ≤ x.a := pw_cases h.gap x hx y hy
theorem srtR_ext : ∀ {l r : List Rn}, SrtR l → SrtR r → (∀ x, x ∈ l ↔ x ∈ r) → l = r
  | [], [], _, _, _ => rfl
  | [], y :: r, _, _, h => by have := (h y).2 (by simp); simp at this
  | x :: l, [], _, _, h => by have := (h x).1 (by simp); simp at this
  | x :: l, y :: r, hl, hr, h => by
    obtain ⟨l1, l2⟩ := List.pairwise_cons.1 hl
    obtain ⟨r1, r2⟩ := List.pairwise_cons.1 hr
    have e : x = y := by
      rcases List.mem_cons.1 ((h x).1 (by simp)) with e | hx
      · exact e
      · rcases List.mem_cons.1 ((h y).2 (by simp)) with e | hy
        · exact e.symm
        · have := r1 x hx; have := l1 y hy; omega
    subst e
    congr 1
    refine srtR_ext l2 r2 fun z => ⟨fun hz => ?_, fun hz => ?_⟩
    · rcases List.mem_cons.1 ((h z).1 (by simp [hz])) with rfl | h2
      · have := l1 z hz; omega
      · exact h2
    · rcases List.mem_cons.1 ((h z).2 (by simp [hz])) with rfl | h2
      · have := r1 z hz; omega
      · exact h2
theorem nf_sub {cap : Int} {L M : List Rn} (hL : NF cap L) (hM : NF cap M) (h : ∀ x p, PG L x p ↔ PG M x p) : ∀ r ∈ L, r ∈ M := by
  intro r hr
  have g := hL.rg r hr
  obtain ⟨q, hq, q1, q2, q3⟩ := (h r.a r.c).1 ⟨r, hr, Int.le_refl _, by have := g.b1; omega, by omega⟩
  have gq := hM.rg q hq
  have ea : q.a = r.a := by
    rcases Int.lt_or_le q.a r.a with hlt | hle
    · exfalso
      obtain ⟨u, hu, u1, u2, u3⟩ := (h (r.a - 1) (r.c - 1)).2 ⟨q, hq, by omega, by omega, by omega⟩
      rcases hL.apart hu hr with e | e | e
      · subst e; omega
      · exact hL.nj u hu r hr ⟨by omega, by omega⟩
      · have := (hL.rg r hr).b1; omega
    · omega
  have eb : q.b = r.b := by
    rcases Int.lt_trichotomy q.b r.b with hlt | he | hgt
    · exfalso
      obtain ⟨u, hu, u1, u2, u3⟩ := (h (q.a + q.b) (q.c + q.b)).1 ⟨r, hr, by have := gq.b1; omega, by omega, by omega⟩
      rcases hM.apart hq hu with e | e | e
      · subst e; omega
      · exact hM.nj q hq u hu ⟨by omega, by omega⟩
      · have := gq.b1; omega
    · exact he
    · exfalso
      obtain ⟨u, hu, u1, u2, u3⟩ := (h (r.a + r.b) (r.c + r.b)).2 ⟨q, hq, by have := g.b1; omega, by omega, by omega⟩
      rcases hL.apart hr hu with e | e | e
      · subst e; omega
      · exact hL.nj r hr u hu ⟨by omega, by omega⟩
      · have := g.b1; omega
  have ec : q.c = r.c := by omega
  have : q = r := by cases q; cases r; simp only at ea eb ec; subst ea; subst eb; subst ec; rfl
  exact this ▸ hq
/-- A map has one form. -/
theorem nf_one {cap : Int} {L M : List Rn} (hL : NF cap L) (hM : NF cap M) (h : ∀ x p, PG L x p ↔ PG M x p) : L = M :=
  srtR_ext hL.srt hM.srt fun x => ⟨nf_sub hL hM h x, nf_sub hM hL (fun x p => (h x p).symm) x⟩
/-! ### What a cut tells -/
def Tch (lba n : Int) (r : Rn) : Prop := lba ≤ r.a + r.b ∧ r.a ≤ lba + n
theorem cutG_fst {lba n : Int} : ∀ {t : List Rn} (o : List Rn) (b : Option Rn), SrtR t → ∀ r, r ∈ (cutG lba n t o b).1 ↔ r ∈ o ∨ (r ∈ t ∧ r.a ≤ lba + n)
  | [], o, b, _, r => by simp [cutG]
  | q :: t, o, b, hs, r => by
    obtain ⟨h1, h2⟩ := List.pairwise_cons.1 hs
    simp only [cutG]
    split
    · next hq =>
      constructor
      · exact .inl
      · rintro (h | ⟨h, h3⟩)
        · exact h
        · rcases List.mem_cons.1 h with rfl | h
          · omega
          · have := h1 r h; omega
    · next hq =>
      rw [cutG_fst _ _ h2]
      simp only [List.mem_append, List.mem_cons, List.not_mem_nil, or_false]
      constructor
      · rintro ((h | rfl) | ⟨h, h3⟩)
        · exact .inl h
        · exact .inr ⟨.inl rfl, by omega⟩
        · exact .inr ⟨.inr h, h3⟩
      · rintro (h | ⟨rfl | h, h3⟩)
        · exact .inl (.inl h)
        · exact .inl (.inr rfl)
        · exact .inr ⟨h, h3⟩
/-- Does a run go on behind a range? -/
def Bhd (lba n : Int) (r : Rn) : Prop := r.a ≤ lba + n ∧ lba + n < r.a + r.b
theorem cutG_snd {lba n : Int} : ∀ {t : List Rn} (o : List Rn) (b : Option Rn), t.Pairwise (fun x y => x.a + x.b ≤ y.a) → (∀ r ∈ t, 1 ≤ r.b) →
    (∃ r ∈ t, Bhd lba n r ∧ (cutG lba n t o b).2 = some (offR r (lba + n - r.a))) ∨ ((∀ r ∈ t, ¬ Bhd lba n r) ∧ (cutG lba n t o b).2 = b)
  | [], o, b, _, _ => .inr ⟨by simp, rfl⟩
  | q :: t, o, b, hs, hb => by
    obtain ⟨h1, h2⟩ := List.pairwise_cons.1 hs
    have hq1 := hb q (by simp)
    simp only [cutG]
    by_cases hq : q.a > lba + n
    · rw [if_pos hq]
      refine .inr ⟨fun r hr hB => ?_, rfl⟩
      rcases List.mem_cons.1 hr with rfl | hr
      · exact absurd hB.1 (by omega)
      · have := h1 r hr; have := hB.1; omega
    · rw [if_neg hq]
      have hp : past lba n q = lba + n - q.a := by simp only [past]; omega
      rw [hp]
      by_cases hbb : q.b > lba + n - q.a
      · rw [if_pos hbb]
        left
        refine ⟨q, by simp, ⟨by omega, by omega⟩, ?_⟩
        rcases cutG_snd (lba := lba) (n := n) (t := t) (o ++ [q]) (some (offR q (lba + n - q.a))) h2 (fun r hr => hb r (by simp [hr])) with ⟨r, hr, hB, e⟩ | ⟨_, e⟩
        · have := h1 r hr; have := hB.1; omega
        · exact e
      · rw [if_neg hbb]
        rcases cutG_snd (lba := lba) (n := n) (t := t) (o ++ [q]) b h2 (fun r hr => hb r (by simp [hr])) with ⟨r, hr, hB, e⟩ | ⟨h3, e⟩
        · exact .inl ⟨r, by simp [hr], hB, e⟩
        · refine .inr ⟨fun r hr hB => ?_, e⟩
          rcases List.mem_cons.1 hr with rfl | hr
          · have := hB.2; omega
          · exact h3 r hr hB
theorem geR_mem {k : Int} {L : List Rn} {r : Rn} : r ∈ geR k L ↔ r ∈ L ∧ r.a ≥ k := by simp [geR]
theorem floorR_last {k : Int} : ∀ {L : List Rn} (o : Option Rn), SrtR L → (∀ q, o = some q → ∀ x ∈ L, q.a < x.a) → (∀ r, floorR k L o = some r → ∀ x ∈ L, x.a ≤ k → x.a ≤ r.a) ∧ (floorR k L o = none → ∀ x ∈ L, ¬ x.a ≤ k)
  | [], o, _, _ => ⟨fun r _ x hx => by simp at hx, fun _ x hx => by simp at hx⟩
  | y :: L, o, hs, ho => by
    obtain ⟨h1, h2⟩ := List.pairwise_cons.1 hs
    have e : floorR k (y :: L) o = floorR k L (if y.a ≤ k then some y else o) := rfl
    rw [e]
    by_cases hy : y.a ≤ k
    · rw [if_pos hy]
      have ih := floorR_last (k := k) (L := L) (some y) h2 (fun q hq => by obtain rfl := Option.some.inj hq; exact h1)
      refine ⟨fun r hr x hx hk => ?_, fun hn => ?_⟩
      · rcases List.mem_cons.1 hx with rfl | hx
        · rcases floorR_mem hr with ⟨h3, _⟩ | h3
          · exact Int.le_of_lt (h1 r h3)
          · obtain rfl := Option.some.inj h3; exact Int.le_refl _
        · exact ih.1 r hr x hx hk
      · exfalso
        have : ∀ (L : List Rn) (z : Rn), floorR k L (some z) ≠ none := by
          intro L
          induction L with
          | nil => intro z h; cases h
          | cons w L ih => intro z; show floorR k L (if w.a ≤ k then some w else some z) ≠ none; split <;> exact ih _
        exact this L y hn
    · rw [if_neg hy]
      have ih := floorR_last (k := k) (L := L) o h2 (fun q hq x hx => ho q hq x (by simp [hx]))
      refine ⟨fun r hr x hx hk => ?_, fun hn x hx hk => ?_⟩
      · rcases List.mem_cons.1 hx with rfl | hx
        · exact absurd hk hy
        · exact ih.1 r hr x hx hk
      · rcases List.mem_cons.1 hx with rfl | hx
        · exact hy hk
        · exact ih.2 hn x hx hk
structure CutOK (L : List Rn) (lba n : Int) (o : List Rn) (ah be : Option Rn) : Prop where
  old : ∀ r, r ∈ o ↔ r ∈ L ∧ Tch lba n r
  ah : (ah = none ∧ ∀ r ∈ L, ¬ (r.a < lba ∧ lba ≤ r.a + r.b)) ∨ ∃ r ∈ L, r.a < lba ∧ lba ≤ r.a + r.b ∧ ah = some ⟨r.a, lba - r.a, r.c⟩
  be : (be = none ∧ ∀ r ∈ L, ¬ Bhd lba n r) ∨ ∃ r ∈ L, Bhd lba n r ∧ be = some (offR r (lba + n - r.a))
theorem touch_some {cap : Int} {L : List Rn} (h : NF cap L) {lba : Int} : (touch lba L = none ∧ ∀ r ∈ L, ¬ (r.a < lba ∧ lba ≤ r.a + r.b)) ∨ ∃ r ∈ L, touch lba L = some r ∧ r.a < lba ∧ lba ≤ r.a + r.b := by
  have F := floorR_last (k := lba - 1) (L := L) none h.srt (fun q hq => by cases hq)
  unfold touch
  cases hf : floorR (lba - 1) L none with
  | none => exact .inl ⟨rfl, fun r hr hh => F.2 hf r hr (by omega)⟩
  | some r =>
    obtain ⟨hr, hra⟩ : r ∈ L ∧ r.a ≤ lba - 1 := by rcases floorR_mem hf with h1 | h1; exact h1; cases h1
    by_cases hto : r.a + r.b ≥ lba
    · exact .inr ⟨r, hr, by simp only [if_pos hto], by omega, hto⟩
    · refine .inl ⟨by simp only [if_neg hto], fun q hq hh => ?_⟩
      have h1 := F.1 r hf q hq (by omega)
      rcases h.apart hq hr with rfl | e | e
      · omega
      · omega
      · have := (h.rg r hr).b1; omega
theorem cut_ok {cap : Int} {L : List Rn} (h : NF cap L) {lba n : Int} (hn : 1 ≤ n) : CutOK L lba n (cutR lba n L).1 (cutR lba n L).2.1 (cutR lba n L).2.2 := by
  have hg : (geR lba L).Pairwise (fun x y => x.a + x.b ≤ y.a) := h.gap.filter _
  have hgs : SrtR (geR lba L) := h.srt.filter _
  have hgb : ∀ r ∈ geR lba L, 1 ≤ r.b := fun r hr => (h.rg r (geR_mem.1 hr).1).b1
  unfold cutR
  rcases touch_some h (lba := lba) with ⟨e, hno⟩ | ⟨q, hq, e, q1, q2⟩
  · rw [e]
    refine ⟨fun r => ?_, .inl ⟨rfl, hno⟩, ?_⟩
    · rw [cutG_fst _ _ hgs, geR_mem]
      simp only [List.not_mem_nil, false_or, Tch]
      constructor
      · rintro ⟨⟨h1, h2⟩, h3⟩
        have := (h.rg r h1).b1
        exact ⟨h1, by omega, h3⟩
      · rintro ⟨h1, h2, h3⟩
        refine ⟨⟨h1, ?_⟩, h3⟩
        rcases Int.lt_or_le r.a lba with hlt | hle
        · exact absurd ⟨hlt, h2⟩ (hno r h1)
        · exact hle
    · rcases cutG_snd (t := geR lba L) (lba := lba) (n := n) [] none hg hgb with ⟨r, hr, hB, e2⟩ | ⟨h3, e2⟩
      · exact .inr ⟨r, (geR_mem.1 hr).1, hB, e2⟩
      · refine .inl ⟨e2, fun r hr hB => ?_⟩
        rcases Int.lt_or_le r.a lba with hlt | hle
        · exact hno r hr ⟨hlt, by have := hB.2; omega⟩
        · exact h3 r (geR_mem.2 ⟨hr, hle⟩) hB
  · rw [e]
    simp only
    have hun : ∀ r ∈ L, r.a < lba → lba ≤ r.a + r.b → r = q := fun r hr h1 h2 => by
      rcases h.apart hr hq with e | e | e
      · exact e
      · omega
      · omega
    refine ⟨fun r => ?_, .inr ⟨q, hq, q1, q2, rfl⟩, ?_⟩
    · rw [cutG_fst _ _ hgs, geR_mem]
      simp only [List.mem_singleton, Tch]
      constructor
      · rintro (rfl | ⟨⟨h1, h2⟩, h3⟩)
        · exact ⟨hq, q2, by omega⟩
        · have := (h.rg r h1).b1
          exact ⟨h1, by omega, h3⟩
      · rintro ⟨h1, h2, h3⟩
        rcases Int.lt_or_le r.a lba with hlt | hle
        · exact .inl (hun r h1 hlt h2)
        · exact .inr ⟨⟨h1, hle⟩, h3⟩
    · rcases cutG_snd (t := geR lba L) (lba := lba) (n := n) [q] (if q.a + q.b > lba + n then some (behA lba n q) else none) hg hgb with ⟨r, hr, hB, e2⟩ | ⟨h3, e2⟩
      · exact .inr ⟨r, (geR_mem.1 hr).1, hB, e2⟩
      · rw [e2]
        by_cases hbe : q.a + q.b > lba + n
        · rw [if_pos hbe]
          exact .inr ⟨q, hq, ⟨by omega, by omega⟩, by simp only [behA, offR, Option.some.injEq, Rn.mk.injEq]; omega⟩
        · rw [if_neg hbe]
          refine .inl ⟨rfl, fun r hr hB => ?_⟩
          rcases Int.lt_or_le r.a lba with hlt | hle
          · have := hun r hr hlt (by have := hB.2; omega); subst this; exact hbe hB.2
          · exact h3 r (geR_mem.2 ⟨hr, hle⟩) hB
end Go.Proofs.Ytdeeancepelkiaa.Am

