/- The runs that a change lays. Conditions: those of each theorem. -/
import Derived.Test.YtdeeancepelkiaaRu10
namespace Go.Proofs.Ytdeeancepelkiaa.Am
open Go.Proofs
set_option maxRecDepth 1000000
set_option maxHeartbeats 4000000
set_option linter.unusedSimpArgs false
set_option linter.unusedVariables false
structure ROk (cap most : Nat) (s : TS) : Prop where
  ok : TOk most s
  nf : NF cap (runsT s.T)
def frS (lba n phys : Int) (L : List Rn) : List Rn := layL [(cutR lba n L).2.1, some ⟨lba, n, phys⟩, (cutR lba n L).2.2]
def frC (lba n : Int) (L : List Rn) : List Rn := layL [(cutR lba n L).2.1, (cutR lba n L).2.2]
theorem rg_rb {cap : Nat} {r : Rn} (h : RG cap r) (hc : cap ≤ 512) : RB r := by
  obtain ⟨a, b, c, d, e⟩ := h
  exact ⟨a, by omega, by omega, by omega, d, by omega⟩
theorem ah_rg {cap : Int} {L : List Rn} {lba n : Int} {o : List Rn} {ah be : Option Rn} (hL : NF cap L) (h0 : 0 ≤ lba) (C : CutOK L lba n o ah be) : ∀ g, ah = some g → RG cap g ∧ g.a + g.b = lba := by
  intro g hg
  rcases C.ah with ⟨e, _⟩ | ⟨r, hr, r1, r2, e⟩
  · rw [e] at hg; cases hg
  · rw [e] at hg
    obtain rfl := Option.some.inj hg
    obtain ⟨a, b, c, d, e⟩ := hL.rg r hr
    exact ⟨⟨a, by simp only; omega, by simp only; omega, d, by simp only; omega⟩, by simp only; omega⟩
theorem be_rg {cap : Int} {L : List Rn} {lba n : Int} {o : List Rn} {ah be : Option Rn} (hL : NF cap L) (h0 : 0 ≤ lba) (hn : 1 ≤ n) (C : CutOK L lba n o ah be) : ∀ g, be = some g → RG cap g ∧ g.a = lba + n := by
  intro g hg
  rcases C.be with ⟨e, _⟩ | ⟨r, hr, hB, e⟩
  · rw [e] at hg; cases hg
  · rw [e] at hg
    obtain rfl := Option.some.inj hg
    obtain ⟨a, b, c, d, e⟩ := hL.rg r hr
    obtain ⟨b1, b2⟩ := hB
    exact ⟨⟨by simp only [offR]; omega, by simp only [offR]; omega, by simp only [offR]; omega, by simp only [offR]; omega, by simp only [offR]; omega⟩, by simp only [offR]; omega⟩
/-- All along, what is laid is well formed. -/
theorem li_list' {cap : Int} : ∀ (m : Nat) (V : List (Option Rn)), V.length = m → (∀ v, some v ∈ V → RG cap v) → (∀ (i j : Nat) (u v : Rn), i < j → V[i]? = some (some u) → V[j]? = some (some v) → u.a + u.b ≤ v.a) → LI cap (V.filterMap fun x => x) (layL V)
  | 0, V, hm, _, _ => by obtain rfl := List.length_eq_zero_iff.1 hm; exact LI.nil cap
  | m + 1, V, hm, h1, h2 => by
    rcases List.eq_nil_or_concat V with e | ⟨U, o, e⟩
    · subst e; simp at hm
    · rw [List.concat_eq_append] at e
      subst e
      have ih := li_list' m U (by simpa using hm) (fun v hv => h1 v (by simp [hv])) (fun i j u v hij hu hv => h2 i j u v hij (by rw [List.getElem?_append_left (List.getElem?_eq_some_iff.1 hu).1]; exact hu) (by rw [List.getElem?_append_left (List.getElem?_eq_some_iff.1 hv).1]; exact hv))
      rw [layL_app]
      cases o with
      | none => simpa using ih.skip
      | some r =>
        have := ih.step (r := r) (h1 r (by simp)) (fun g hg => by
          simp only [List.mem_filterMap] at hg
          obtain ⟨x, hx, e⟩ := hg
          subst e
          obtain ⟨i, hi⟩ := List.mem_iff_getElem?.1 hx
          have hil := (List.getElem?_eq_some_iff.1 hi).1
          exact h2 i U.length g r hil (by rw [List.getElem?_append_left hil]; exact hi) (by simp))
        simpa using this
theorem li_list {cap : Int} (V : List (Option Rn)) (h1 : ∀ v, some v ∈ V → RG cap v) (h2 : ∀ (i j : Nat) (u v : Rn), i < j → V[i]? = some (some u) → V[j]? = some (some v) → u.a + u.b ≤ v.a) : LI cap (V.filterMap fun x => x) (layL V) := li_list' _ V rfl h1 h2
theorem li_rb {cap : Nat} (hc : cap ≤ 512) {V : List (Option Rn)} (h1 : ∀ v, some v ∈ V → RG cap v) (h2 : ∀ (i j : Nat) (u v : Rn), i < j → V[i]? = some (some u) → V[j]? = some (some v) → u.a + u.b ≤ v.a) : (∀ i : Nat, ∀ q ∈ lyT V i, RB q) ∧ ∀ r, some r ∈ V → RB r := by
  refine ⟨fun i q hq => ?_, fun r hr => rg_rb (h1 r hr) hc⟩
  have := li_list (cap := cap) (V.take i) (fun v hv => h1 v (List.mem_of_mem_take hv)) (fun a b u v hab hu hv => by
    rw [List.getElem?_take] at hu hv
    split at hu
    · split at hv
      · exact h2 a b u v hab hu hv
      · cases hv
    · cases hu)
  exact rg_rb (this.rg q hq) hc
theorem set_parts {cap most : Nat} {s : TS} {lba n phys : Int} (h : ROk cap most s) (hr : rgt cap lba n = true) (hp : 0 ≤ phys) (hp2 : phys ≤ 1048576) (hc : cap ≤ 512) :
    (∀ v, some v ∈ [(cutR lba n (runsT s.T)).2.1, some ⟨lba, n, phys⟩, (cutR lba n (runsT s.T)).2.2] → RG cap v) ∧
    (∀ (i j : Nat) (u v : Rn), i < j → [(cutR lba n (runsT s.T)).2.1, some ⟨lba, n, phys⟩, (cutR lba n (runsT s.T)).2.2][i]? = some (some u) → [(cutR lba n (runsT s.T)).2.1, some ⟨lba, n, phys⟩, (cutR lba n (runsT s.T)).2.2][j]? = some (some v) → u.a + u.b ≤ v.a) ∧
    FS cap (runsT s.T) lba n (fun x p => p = phys + (x - lba)) (frS lba n phys (runsT s.T)) := by
  simp only [rgt, decide_eq_true_eq] at hr
  obtain ⟨r1, r2, r3, r4⟩ := hr
  have C := cut_ok h.nf (lba := lba) r1
  have A := ah_rg h.nf r3 C
  have B := be_rg h.nf r3 r1 C
  have h1 : ∀ v, some v ∈ [(cutR lba n (runsT s.T)).2.1, some ⟨lba, n, phys⟩, (cutR lba n (runsT s.T)).2.2] → RG cap v := fun v hv => by
    simp only [List.mem_cons, List.not_mem_nil, or_false] at hv
    rcases hv with e | e | e
    · exact (A v e.symm).1
    · obtain rfl := Option.some.inj e
      exact ⟨r3, r1, by simp only; omega, hp, by simp only; omega⟩
    · exact (B v e.symm).1
  have h2 : ∀ (i j : Nat) (u v : Rn), i < j → [(cutR lba n (runsT s.T)).2.1, some ⟨lba, n, phys⟩, (cutR lba n (runsT s.T)).2.2][i]? = some (some u) → [(cutR lba n (runsT s.T)).2.1, some ⟨lba, n, phys⟩, (cutR lba n (runsT s.T)).2.2][j]? = some (some v) → u.a + u.b ≤ v.a := by
    intro i j u v hij hu hv
    match i, j, hij with
    | 0, 1, _ =>
      simp only [List.getElem?_cons_zero, List.getElem?_cons_succ, Option.some.injEq] at hu hv
      subst hv; have := (A u hu).2; simp only; omega
    | 0, 2, _ =>
      simp only [List.getElem?_cons_zero, List.getElem?_cons_succ, Option.some.injEq] at hu hv
      have := (A u hu).2; have := (B v hv).2; omega
    | 1, 2, _ =>
      simp only [List.getElem?_cons_zero, List.getElem?_cons_succ, Option.some.injEq] at hu hv
      subst hu; have := (B v hv).2; simp only; omega
    | i, j + 3, _ => simp at hv
    | i + 2, 2, h => omega
    | i + 1, 1, h => omega
    | i, 0, h => omega
  refine ⟨h1, h2, ?_⟩
  have I := li_list _ h1 h2
  have e : [(cutR lba n (runsT s.T)).2.1, some ⟨lba, n, phys⟩, (cutR lba n (runsT s.T)).2.2].filterMap (fun x => x) = opL (cutR lba n (runsT s.T)).2.1 ++ [⟨lba, n, phys⟩] ++ opL (cutR lba n (runsT s.T)).2.2 := by
    cases (cutR lba n (runsT s.T)).2.1 <;> cases (cutR lba n (runsT s.T)).2.2 <;> rfl
  rw [e] at I
  refine LI.fs h.nf r1 C (fun v hv => ?_) (fun x p => ?_) I
  · obtain rfl := List.mem_singleton.1 hv; simp only; omega
  · rw [PG_one]; simp only [Cov]
theorem clr_parts {cap most : Nat} {s : TS} {lba n : Int} (h : ROk cap most s) (hr : rgt cap lba n = true) (hc : cap ≤ 512) :
    (∀ v, some v ∈ [(cutR lba n (runsT s.T)).2.1, (cutR lba n (runsT s.T)).2.2] → RG cap v) ∧
    (∀ (i j : Nat) (u v : Rn), i < j → [(cutR lba n (runsT s.T)).2.1, (cutR lba n (runsT s.T)).2.2][i]? = some (some u) → [(cutR lba n (runsT s.T)).2.1, (cutR lba n (runsT s.T)).2.2][j]? = some (some v) → u.a + u.b ≤ v.a) ∧
    FS cap (runsT s.T) lba n (fun _ _ => False) (frC lba n (runsT s.T)) := by
  simp only [rgt, decide_eq_true_eq] at hr
  obtain ⟨r1, r2, r3, r4⟩ := hr
  have C := cut_ok h.nf (lba := lba) r1
  have A := ah_rg h.nf r3 C
  have B := be_rg h.nf r3 r1 C
  have h1 : ∀ v, some v ∈ [(cutR lba n (runsT s.T)).2.1, (cutR lba n (runsT s.T)).2.2] → RG cap v := fun v hv => by
    simp only [List.mem_cons, List.not_mem_nil, or_false] at hv
    rcases hv with e | e
    · exact (A v e.symm).1
    · exact (B v e.symm).1
  have h2 : ∀ (i j : Nat) (u v : Rn), i < j → [(cutR lba n (runsT s.T)).2.1, (cutR lba n (runsT s.T)).2.2][i]? = some (some u) → [(cutR lba n (runsT s.T)).2.1, (cutR lba n (runsT s.T)).2.2][j]? = some (some v) → u.a + u.b ≤ v.a := by
    intro i j u v hij hu hv
    match i, j, hij with
    | 0, 1, _ =>
      simp only [List.getElem?_cons_zero, List.getElem?_cons_succ, Option.some.injEq] at hu hv
      have := (A u hu).2; have := (B v hv).2; omega
    | i, j + 2, _ => simp at hv
    | i + 1, 1, h => omega
    | i, 0, h => omega
  refine ⟨h1, h2, ?_⟩
  have I := li_list _ h1 h2
  have e : [(cutR lba n (runsT s.T)).2.1, (cutR lba n (runsT s.T)).2.2].filterMap (fun x => x) = opL (cutR lba n (runsT s.T)).2.1 ++ [] ++ opL (cutR lba n (runsT s.T)).2.2 := by
    cases (cutR lba n (runsT s.T)).2.1 <;> cases (cutR lba n (runsT s.T)).2.2 <;> rfl
  rw [e] at I
  refine LI.fs h.nf r1 C (fun v hv => by simp at hv) (fun x p => ?_) I
  simp [PG]
end Go.Proofs.Ytdeeancepelkiaa.Am

