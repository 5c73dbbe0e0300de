/- The tree behind a change. Conditions: those of each theorem. -/
import Derived.Test.YtdeeancepelkiaaRu9
namespace Go.Proofs.Ytdeeancepelkiaa.Am
open Go.Proofs
set_option maxRecDepth 1000000
set_option maxHeartbeats 4000000
set_option linter.unusedSimpArgs false
set_option linter.unusedVariables false
theorem cutG_pre {lba n : Int} : ∀ (t o : List Rn) (b : Option Rn), (cutG lba n t o b).1 = o ++ t.takeWhile fun r => decide (r.a ≤ lba + n)
  | [], o, b => by simp [cutG]
  | q :: t, o, b => by
    simp only [cutG]
    by_cases hq : q.a > lba + n
    · rw [if_pos hq, List.takeWhile_cons, if_neg (by simp; omega)]; simp
    · rw [if_neg hq, cutG_pre t, List.takeWhile_cons, if_pos (by simp; omega)]; simp
theorem old_srt {cap : Int} {L : List Rn} (h : NF cap L) {lba n : Int} : SrtR (cutR lba n L).1 := by
  have hgs : SrtR (geR lba L) := h.srt.filter _
  have hs : SrtR ((geR lba L).takeWhile fun r => decide (r.a ≤ lba + n)) := hgs.sublist (List.takeWhile_sublist _)
  unfold cutR
  rcases touch_some h (lba := lba) with ⟨e, hno⟩ | ⟨q, hq, e, q1, q2⟩
  · rw [e]; simp only [cutG_pre, List.nil_append]; exact hs
  · rw [e]; simp only [cutG_pre, List.cons_append, List.nil_append]
    refine List.pairwise_cons.2 ⟨fun x hx => ?_, hs⟩
    have := (geR_mem.1 ((List.takeWhile_sublist _).subset hx)).2
    omega
theorem old_eq {cap : Int} {L : List Rn} (h : NF cap L) {lba n : Int} (hn : 1 ≤ n) : (cutR lba n L).1 = L.filter fun r => decide (lba ≤ r.a + r.b ∧ r.a ≤ lba + n) :=
  srtR_ext (old_srt h) (h.srt.filter _) fun r => by rw [(cut_ok h hn).old r, List.mem_filter]; simp [Tch]
theorem len3 {L : List Rn} {p q : Rn → Bool} (h : ∀ r ∈ L, ¬ (p r = true ∧ q r = true)) : (L.filter p).length + (L.filter q).length + (L.filter fun r => !p r && !q r).length = L.length := by
  induction L with
  | nil => rfl
  | cons x L ih =>
    have h1 := h x (by simp)
    have h2 := ih fun r hr => h r (by simp [hr])
    simp only [List.filter_cons]
    cases hp : p x <;> cases hq : q x <;> simp_all <;> omega
/-- The list behind a change. -/
def newL (lba n : Int) (L F : List Rn) : List Rn := (L.filter fun r => decide (r.a + r.b < lba)) ++ F ++ (L.filter fun r => decide (lba + n < r.a))
theorem newL_mem {cap : Int} {L F : List Rn} (hL : NF cap L) {lba n : Int} (r : Rn) : r ∈ newL lba n L F ↔ (r ∈ L ∧ ¬ Tch lba n r) ∨ r ∈ F := by
  simp only [newL, List.mem_append, List.mem_filter, decide_eq_true_eq, Tch]
  constructor
  · rintro ((⟨h1, h2⟩ | h1) | ⟨h1, h2⟩)
    · exact .inl ⟨h1, fun h => by omega⟩
    · exact .inr h1
    · exact .inl ⟨h1, fun h => by omega⟩
  · rintro (⟨h1, h2⟩ | h1)
    · by_cases h : r.a + r.b < lba
      · exact .inl (.inl ⟨h1, h⟩)
      · exact .inr ⟨h1, by omega⟩
    · exact .inl (.inr h1)
theorem fs_side {cap : Int} {L F : List Rn} {lba n : Int} {W : Int → Int → Prop} (hL : NF cap L) (hn : 1 ≤ n) (h : FS cap L lba n W F) : (∀ x ∈ L, x.a + x.b < lba → ∀ f ∈ F, x.a < f.a) ∧ (∀ x ∈ L, lba + n < x.a → ∀ f ∈ F, f.a < x.a) := by
  refine ⟨fun x hx hlt f hf => ?_, fun x hx hgt f hf => ?_⟩
  · have bx := (hL.rg x hx).b1
    rcases h.left f hf with h1 | ⟨r, hr, t, r1, e1, e2⟩
    · omega
    · have t1 := t.1
      rcases hL.apart hx hr with e | e | e
      · subst e; omega
      · omega
      · omega
  · have bf := (h.rg f hf).b1
    rcases h.right f hf with h1 | ⟨r, hr, hB, e1, e2⟩
    · omega
    · have t1 := hB.1
      have t2 := hB.2
      have bx := (hL.rg x hx).b1
      have br := (hL.rg r hr).b1
      rcases hL.apart hx hr with e | e | e
      · subst e; omega
      · omega
      · omega
theorem newL_srt {cap : Int} {L F : List Rn} {lba n : Int} {W : Int → Int → Prop} (hL : NF cap L) (hn : 1 ≤ n) (h : FS cap L lba n W F) : SrtR (newL lba n L F) := by
  obtain ⟨s1, s2⟩ := fs_side hL hn h
  have hF : SrtR F := by
    refine List.Pairwise.imp_of_mem ?_ h.gap
    intro x y hx _ hxy
    have := (h.rg x hx).b1
    omega
  refine List.pairwise_append.2 ⟨List.pairwise_append.2 ⟨hL.srt.filter _, hF, fun x hx y hy => ?_⟩, hL.srt.filter _, fun x hx y hy => ?_⟩
  · rw [List.mem_filter] at hx
    exact s1 x hx.1 (by simpa using hx.2) y hy
  · rw [List.mem_filter] at hy
    have hy2 : lba + n < y.a := by simpa using hy.2
    rcases List.mem_append.1 hx with hx | hx
    · rw [List.mem_filter] at hx
      have hx2 : x.a + x.b < lba := by simpa using hx.2
      have := (hL.rg x hx.1).b1; omega
    · exact s2 y hy.1 hy2 x hx
theorem newL_nf {cap : Int} {L F : List Rn} {lba n : Int} {W : Int → Int → Prop} (hL : NF cap L) (hn : 1 ≤ n) (h : FS cap L lba n W F) : NF cap (newL lba n L F) ∧ ∀ x p, PG (newL lba n L F) x p ↔ (lba ≤ x ∧ x < lba + n ∧ W x p) ∨ ((x < lba ∨ lba + n ≤ x) ∧ PG L x p) :=
  h.nf hL hn (newL_srt hL hn h) (newL_mem hL)
theorem newL_len {cap : Int} {L F : List Rn} {lba n : Int} (hL : NF cap L) (hn : 1 ≤ n) : (newL lba n L F).length + (cutR lba n L).1.length = L.length + F.length := by
  have h := len3 (L := L) (p := fun r => decide (r.a + r.b < lba)) (q := fun r => decide (lba + n < r.a)) (fun r hr => by have := (hL.rg r hr).b1; simp; omega)
  have e : (L.filter fun r => !decide (r.a + r.b < lba) && !decide (lba + n < r.a)) = (cutR lba n L).1 := by
    rw [old_eq hL hn]
    refine List.filter_congr fun r hr => ?_
    by_cases h1 : r.a + r.b < lba <;> by_cases h2 : lba + n < r.a <;> simp [h1, h2] <;> omega
  rw [e] at h
  simp only [newL, List.length_append]
  omega
theorem nf_len {cap : Int} {L : List Rn} (h : NF cap L) (hc : 0 ≤ cap) : (L.length : Int) ≤ cap := by
  have : ∀ (L : List Rn) (z : Int), L.Pairwise (fun x y => x.a + x.b ≤ y.a) → (∀ r ∈ L, z ≤ r.a ∧ 1 ≤ r.b ∧ r.a + r.b ≤ cap) → z ≤ cap → (L.length : Int) + z ≤ cap := by
    intro L
    induction L with
    | nil => intro z _ _ hz; simpa using hz
    | cons x l ih =>
      intro z hp hr hz
      obtain ⟨h1, h2⟩ := List.pairwise_cons.1 hp
      obtain ⟨x1, x2, x3⟩ := hr x (by simp)
      have := ih (x.a + x.b) h2 (fun r hr2 => by have := hr r (by simp [hr2]); exact ⟨h1 r hr2, this.2⟩) x3
      simp only [List.length_cons]
      omega
  have := this L 0 h.gap (fun r hr => by have := h.rg r hr; exact ⟨this.a0, this.b1, this.e1⟩) hc
  omega
/-! ### The tree behind a change -/
theorem runs_del {n : Nat} {s : TS} (h : TOk n s) (k : Int) : runsT (delK s k).T = (runsT s.T).filter fun r => r.a != k := by
  unfold delK
  split
  · simp only [runsT, delS_ino h, remL, List.filter_map]; rfl
  · next hg =>
    refine (List.filter_eq_self.2 fun r hr => ?_).symm
    simp only [runsT, List.mem_map] at hr
    obtain ⟨x, hx, rfl⟩ := hr
    simp only [bne_iff_ne, ne_eq]
    intro e
    exact hg ((has_iff s k).2 ⟨x, hx, e⟩)
theorem runs_delL {n : Nat} : ∀ (l : List Rn) {s : TS}, TOk n s → ∀ r, r ∈ runsT (delL s l).T ↔ r ∈ runsT s.T ∧ ∀ o ∈ l, r.a ≠ o.a
  | [], s, _, r => by simp [delL]
  | o :: l, s, h, r => by
    show r ∈ runsT (delL (delK s o.a) l).T ↔ _
    rw [runs_delL l (delK_ok h), runs_del h, List.mem_filter]
    simp only [bne_iff_ne, ne_eq, List.mem_cons, forall_eq_or_imp, and_assoc]
theorem has_runs (s : TS) (k : Int) : Has s k ↔ ∃ r ∈ runsT s.T, r.a = k := by
  simp only [Has, runsT, List.mem_map]
  constructor
  · rintro ⟨x, hx, e⟩; exact ⟨_, ⟨x, hx, rfl⟩, e⟩
  · rintro ⟨_, ⟨x, hx, rfl⟩, e⟩; exact ⟨x, hx, e⟩
theorem delL_n {n : Nat} : ∀ (l : List Rn) {s : TS}, TOk n s → SrtR l → (∀ o ∈ l, o ∈ runsT s.T) → (delL s l).n + l.length = s.n
  | [], s, _, _, _ => rfl
  | o :: l, s, h, hs, hm => by
    obtain ⟨h1, h2⟩ := List.pairwise_cons.1 hs
    have hg : (getL o.a s.T.ino).isSome = true := (has_iff s _).2 ((has_runs s _).2 ⟨o, hm o (by simp), rfl⟩)
    have e1 : (delK s o.a).n + 1 = s.n := by rw [delK, if_pos hg]; exact (delS_ok h hg).2
    have := delL_n l (delK_ok (a := o.a) h) h2 (fun q hq => by
      rw [runs_del h, List.mem_filter]
      exact ⟨hm q (by simp [hq]), by have := h1 q hq; simp; omega⟩)
    show (delL (delK s o.a) l).n + (l.length + 1) = s.n
    omega
theorem runs_ins {n : Nat} {s : TS} (h : TOk n s) (hn : s.n < n) {r : Rn} (hr : ∀ q ∈ runsT s.T, q.a ≠ r.a) : insE n s r.a = 0 ∧ (insK n s r.a r.b r.c).n = s.n + 1 ∧ ∀ q, q ∈ runsT (insK n s r.a r.b r.c).T ↔ q = r ∨ q ∈ runsT s.T := by
  have hg : ¬ (getL r.a s.T.ino).isSome = true := fun hh => by
    obtain ⟨q, hq, e⟩ := (has_runs s _).1 ((has_iff s _).1 hh)
    exact hr q hq e
  refine ⟨by rw [insE, if_neg hg, if_pos hn], ?_, fun q => ?_⟩
  · rw [insK, if_neg hg, if_pos hn]; exact (insS_ok h hn (by simpa using hg)).2
  · rw [insK, if_neg hg, if_pos hn]
    simp only [runsT, insS_ino h, List.mem_map]
    constructor
    · rintro ⟨x, hx, rfl⟩
      rcases (insL_mem _ x _).1 hx with rfl | hx
      · exact .inl rfl
      · exact .inr ⟨x, hx, rfl⟩
    · rintro (rfl | ⟨x, hx, rfl⟩)
      · exact ⟨_, (insL_mem _ _ _).2 (.inl rfl), rfl⟩
      · exact ⟨x, (insL_mem _ _ _).2 (.inr hx), rfl⟩
theorem insL_all {n : Nat} : ∀ (l : List Rn) {s : TS}, TOk n s → SrtR l → s.n + l.length ≤ n → (∀ f ∈ l, ∀ q ∈ runsT s.T, q.a ≠ f.a) →
    (∀ i, i < l.length → ∀ r, l[i]? = some r → insE n (insL' n s (l.take i)) r.a = 0) ∧ (insL' n s l).n = s.n + l.length ∧ ∀ q, q ∈ runsT (insL' n s l).T ↔ q ∈ l ∨ q ∈ runsT s.T
  | [], s, _, _, _, _ => ⟨fun i hi => by simp at hi, rfl, fun q => by simp [insL']⟩
  | f :: l, s, h, hs, hn, hf => by
    obtain ⟨h1, h2⟩ := List.pairwise_cons.1 hs
    simp only [List.length_cons] at hn
    obtain ⟨e1, e2, e3⟩ := runs_ins h (by omega) (hf f (by simp))
    obtain ⟨g1, g2, g3⟩ := insL_all l (insK_ok (a := f.a) (b := f.b) (c := f.c) h) h2 (by omega) (fun u hu q hq => by
      rcases (e3 q).1 hq with rfl | hq
      · have := h1 u hu; omega
      · exact hf u (by simp [hu]) q hq)
    refine ⟨fun i hi r hr => ?_, ?_, fun q => ?_⟩
    · cases i with
      | zero =>
        simp only [List.getElem?_cons_zero, Option.some.injEq] at hr
        subst hr
        exact e1
      | succ i =>
        simp only [List.getElem?_cons_succ] at hr
        rw [List.take_succ_cons]
        exact g1 i (by simpa using hi) r hr
    · show (insL' n (insK n s f.a f.b f.c) l).n = _
      rw [g2, e2, List.length_cons]; omega
    · show q ∈ runsT (insL' n (insK n s f.a f.b f.c) l).T ↔ _
      rw [g3, e3, List.mem_cons]
      constructor
      · rintro (h | h | h) <;> simp [h]
      · rintro ((h | h) | h) <;> simp [h]
/-- A change that fits, and what it makes. -/
theorem chg_ok {most : Nat} {cap : Int} {s : TS} {F : List Rn} {lba n : Int} {W : Int → Int → Prop} (h : TOk most s) (hL : NF cap (runsT s.T)) (hn : 1 ≤ n) (hF : FS cap (runsT s.T) lba n W F)
    (hx : s.n + F.length ≤ most + (cutR lba n (runsT s.T)).1.length) : Chg most s (cutR lba n (runsT s.T)).1 F ∧ runsT (insL' most (delL s (cutR lba n (runsT s.T)).1) F).T = newL lba n (runsT s.T) F := by
  have C := cut_ok hL (lba := lba) hn
  have hd := delL_n _ h (old_srt hL (lba := lba) (n := n)) fun o ho => ((C.old o).1 ho).1
  have hFs : SrtR F := by
    refine List.Pairwise.imp_of_mem ?_ hF.gap
    intro x y hx _ hxy
    have := (hF.rg x hx).b1
    omega
  have hk : ∀ r, r ∈ runsT (delL s (cutR lba n (runsT s.T)).1).T ↔ r ∈ runsT s.T ∧ ¬ Tch lba n r := fun r => by
    rw [runs_delL _ h]
    constructor
    · rintro ⟨h1, h2⟩
      exact ⟨h1, fun ht => h2 r ((C.old r).2 ⟨h1, ht⟩) rfl⟩
    · rintro ⟨h1, h2⟩
      refine ⟨h1, fun o ho e => h2 ?_⟩
      obtain ⟨o1, o2⟩ := (C.old o).1 ho
      have b1 := (hL.rg r h1).b1
      have b2 := (hL.rg o o1).b1
      rcases hL.apart h1 o1 with e2 | e2 | e2
      · rw [e2]; exact o2
      · omega
      · omega
  obtain ⟨s1, s2⟩ := fs_side hL hn hF
  obtain ⟨g1, g2, g3⟩ := insL_all F (delL_ok (cutR lba n (runsT s.T)).1 h) hFs (by omega) (fun f hf q hq e => by
    obtain ⟨h1, h2⟩ := (hk q).1 hq
    by_cases hlt : q.a + q.b < lba
    · have := s1 q h1 hlt f hf; omega
    · have hgt : lba + n < q.a := by
        rcases Int.lt_or_le (lba + n) q.a with h3 | h3
        · exact h3
        · exact absurd ⟨by omega, h3⟩ h2
      have := s2 q h1 hgt f hf; omega)
  refine ⟨⟨hx, hd, g1⟩, srtR_ext (srtR (insL_ok _ (delL_ok _ h))) (newL_srt hL hn hF) fun r => ?_⟩
  rw [g3, hk, newL_mem hL]
  exact or_comm
end Go.Proofs.Ytdeeancepelkiaa.Am

