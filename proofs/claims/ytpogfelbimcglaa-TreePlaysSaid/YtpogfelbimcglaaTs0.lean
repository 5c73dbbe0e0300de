/- Functions of the tree and of the law TreePlays, walked. Conditions: those of each theorem. -/
import Derived.Test.YtpogfelbimcglaaTr14a
namespace Go.Proofs.Ytpogfelbimcglaa.Am
open Go.Proofs
set_option maxRecDepth 1000000
set_option maxHeartbeats 4000000
set_option linter.unusedSimpArgs false
set_option linter.unusedVariables false
/-- A run put in, unless its key is there or no node is free. -/
def insK (n : Nat) (s : TS) (a b c : Int) : TS := if (getL a s.T.ino).isSome = true then s else if s.n < n then insS s a b c else s
def insE (n : Nat) (s : TS) (a : Int) : Int := if (getL a s.T.ino).isSome = true then 1 else if s.n < n then 0 else 5
def delK (s : TS) (a : Int) : TS := if (getL a s.T.ino).isSome = true then delS s a else s
def delE (s : TS) (a : Int) : Int := if (getL a s.T.ino).isSome = true then 0 else 4
theorem TOk.le {n : Nat} {s : TS} (h : TOk n s) : s.n ≤ n := by obtain ⟨_, _, _, h⟩ := h.free; omega
theorem ins_any {n : Nat} {s : TS} (a b c : Int) (h : TOk n s) (hm : n ≤ 512) :
  FM Try.prog 10 [.p (some (2,0)), .agg [.i .i64 a, .i .i64 b, .i .i64 c]] (tsM s) (fun v M' => v = .i .i64 (insE n s a) ∧ M' = tsM (insK n s a b c)) := by
  unfold insE insK
  by_cases hg : (getL a s.T.ino).isSome = true
  · rw [if_pos hg, if_pos hg]; exact insert_dup b c h hm hg
  · rw [if_neg hg, if_neg hg]
    have hg : getL a s.T.ino = none := by simpa using hg
    by_cases hn : s.n < n
    · rw [if_pos hn, if_pos hn]; exact insert_ok b c h hm hn hg
    · rw [if_neg hn, if_neg hn]; exact insert_full b c h hm (by have := h.le; omega) hg
theorem del_any {n : Nat} {s : TS} (a : Int) (h : TOk n s) (hm : n ≤ 512) :
  FM Try.prog 13 [.p (some (2,0)), .i .i64 a] (tsM s) (fun v M' => v = .i .i64 (delE s a) ∧ M' = tsM (delK s a)) := by
  unfold delE delK
  by_cases hg : (getL a s.T.ino).isSome = true
  · rw [if_pos hg, if_pos hg]; exact delete_ok h hm hg
  · rw [if_neg hg, if_neg hg]
    exact delete_no h hm (by simpa using hg)
theorem insK_ok {n : Nat} {s : TS} {a b c : Int} (h : TOk n s) : TOk n (insK n s a b c) := by
  unfold insK
  split
  · exact h
  · next hg =>
    split
    · next hn => exact (insS_ok h hn (by simpa using hg)).1
    · exact h
theorem delK_ok {n : Nat} {s : TS} {a : Int} (h : TOk n s) : TOk n (delK s a) := by
  unfold delK
  split
  · next hg => exact (delS_ok h hg).1
  · exact h
theorem insK_len {n : Nat} {s : TS} {a b c : Int} (h : TOk n s) : (insK n s a b c).ps.length = s.ps.length := by rw [(insK_ok h).len, h.len]
theorem delK_len {n : Nat} {s : TS} {a : Int} (h : TOk n s) : (delK s a).ps.length = s.ps.length := by rw [(delK_ok h).len, h.len]
/-- What a tree holds: a key, or not. -/
def Has (s : TS) (k : Int) : Prop := ∃ x ∈ s.T.ino, x.a = k
theorem has_iff (s : TS) (k : Int) : (getL k s.T.ino).isSome = true ↔ Has s k := by
  simp only [getL, List.find?_isSome, beq_iff_eq, Has]
theorem insL_mem (n x : Nd) : ∀ l : List Nd, x ∈ insL n l ↔ x = n ∨ x ∈ l
  | [] => by simp [insL]
  | y :: l => by
    simp only [insL]; split
    · simp
    · simp only [List.mem_cons, insL_mem n x l]
      constructor <;> (intro h; rcases h with h | h | h <;> simp [h])
theorem insS_ino {n : Nat} {s : TS} {a b c : Int} (h : TOk n s) : (insS s a b c).T.ino = insL ⟨s.fr.toNat, a, b, c⟩ s.T.ino := ins_ino _ _ _ _ _ h.srt
theorem delS_ino {n : Nat} {s : TS} {a : Int} (h : TOk n s) : (delS s a).T.ino = remL a s.T.ino := rem_ino _ _ h.srt
theorem has_ins {n : Nat} {s : TS} {a b c : Int} (h : TOk n s) (hn : s.n < n) (k : Int) : Has (insK n s a b c) k ↔ k = a ∨ Has s k := by
  unfold insK
  split
  · next hg =>
    constructor
    · exact .inr
    · rintro (rfl | h2)
      · exact (has_iff s k).1 hg
      · exact h2
  · unfold Has
    rw [insS_ino h]
    constructor
    · rintro ⟨x, hx, hk⟩
      rcases (insL_mem _ x _).1 hx with rfl | hx
      · exact .inl hk.symm
      · exact .inr ⟨x, hx, hk⟩
    · rintro (rfl | ⟨x, hx, hk⟩)
      · exact ⟨_, (insL_mem _ _ _).2 (.inl rfl), rfl⟩
      · exact ⟨x, (insL_mem _ _ _).2 (.inr hx), hk⟩
theorem has_del {n : Nat} {s : TS} {a : Int} (h : TOk n s) (k : Int) : Has (delK s a) k ↔ k ≠ a ∧ Has s k := by
  unfold delK
  split
  · unfold Has
    rw [delS_ino h]
    constructor
    · rintro ⟨x, hx, hk⟩
      simp only [remL, List.mem_filter, bne_iff_ne, ne_eq] at hx
      exact ⟨fun e => hx.2 (hk.trans e), x, hx.1, hk⟩
    · rintro ⟨hne, x, hx, hk⟩
      exact ⟨x, by simp only [remL, List.mem_filter, bne_iff_ne, ne_eq]; exact ⟨hx, fun e => hne (hk.symm.trans e)⟩, hk⟩
  · next hg =>
    constructor
    · intro h2
      exact ⟨fun e => hg ((has_iff s a).2 (e ▸ h2)), h2⟩
    · exact fun h2 => h2.2
/-- All runs are of one kind. -/
def Plain (s : TS) : Prop := ∀ x ∈ s.T.ino, x.b = 1 ∧ x.c = 7
theorem plain_ins {n : Nat} {s : TS} {a : Int} (h : TOk n s) (p : Plain s) : Plain (insK n s a 1 7) := by
  unfold insK
  split
  · exact p
  · split
    · intro x hx
      rw [insS_ino h] at hx
      rcases (insL_mem _ x _).1 hx with rfl | hx
      · exact ⟨rfl, rfl⟩
      · exact p x hx
    · exact p
theorem plain_del {n : Nat} {s : TS} {a : Int} (h : TOk n s) (p : Plain s) : Plain (delK s a) := by
  unfold delK
  split
  · intro x hx
    rw [delS_ino h] at hx
    exact p x (List.mem_filter.1 hx).1
  · exact p
/-- Sorted rows with the same keys. -/
theorem srt_same : ∀ {l r : List Nd}, Srt l → Srt r → (∀ k, (∃ x ∈ l, x.a = k) ↔ ∃ x ∈ r, x.a = k) → l.map Nd.a = r.map Nd.a
  | [], [], _, _, _ => rfl
  | [], y :: r, _, _, h => by obtain ⟨x, hx, _⟩ := (h y.a).2 ⟨y, by simp, rfl⟩; simp at hx
  | x :: l, [], _, _, h => by obtain ⟨y, hy, _⟩ := (h x.a).1 ⟨x, by simp, rfl⟩; simp at hy
  | x :: l, y :: r, hl, hr, h => by
    obtain ⟨l1, l2⟩ := List.pairwise_cons.1 hl
    obtain ⟨r1, r2⟩ := List.pairwise_cons.1 hr
    have e : x.a = y.a := by
      obtain ⟨u, hu, hu2⟩ := (h x.a).1 ⟨x, by simp, rfl⟩
      obtain ⟨v, hv, hv2⟩ := (h y.a).2 ⟨y, by simp, rfl⟩
      rcases List.mem_cons.1 hu with rfl | hu
      · exact hu2.symm
      · rcases List.mem_cons.1 hv with rfl | hv
        · exact hv2
        · have := r1 u hu; have := l1 v hv; omega
    simp only [List.map_cons, e]
    congr 1
    refine srt_same l2 r2 fun k => ⟨fun ⟨u, hu, hk⟩ => ?_, fun ⟨u, hu, hk⟩ => ?_⟩
    · obtain ⟨v, hv, hv2⟩ := (h k).1 ⟨u, by simp [hu], hk⟩
      rcases List.mem_cons.1 hv with rfl | hv
      · have := l1 u hu; omega
      · exact ⟨v, hv, hv2⟩
    · obtain ⟨v, hv, hv2⟩ := (h k).2 ⟨u, by simp [hu], hk⟩
      rcases List.mem_cons.1 hv with rfl | hv
      · have := r1 u hu; omega
      · exact ⟨v, hv, hv2⟩
theorem plain_runs {l : List Nd} (h : ∀ x ∈ l, x.b = 1 ∧ x.c = 7) : (l.map fun x => (⟨x.a, x.b, x.c⟩ : Rn)) = (l.map Nd.a).map fun a => ⟨a, 1, 7⟩ := by
  rw [List.map_map]
  exact List.map_congr_left fun x hx => by simp [(h x hx).1, (h x hx).2]
end Go.Proofs.Ytpogfelbimcglaa.Am

