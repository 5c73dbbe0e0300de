/- Functions of the tree and of the law TreePlays, walked. Conditions: those of each theorem. -/
import Derived.Test.YtpogfelbimcglaaTr11
namespace Go.Proofs.Ytpogfelbimcglaa.Am
open Go.Proofs
set_option maxRecDepth 1000000
set_option maxHeartbeats 4000000
set_option linter.unusedSimpArgs false
set_option linter.unusedVariables false
theorem Chn.frame {ps ps' : List Pl} : ∀ {free : List Nat} {fr : Int}, Chn ps fr free → (∀ j, j ∈ free → (ps'[j]?).map Pl.next = (ps[j]?).map Pl.next) → Chn ps' fr free
  | [], _, h, _ => h
  | k :: l, fr, ⟨h1, h2, p, h3, h4⟩, hf => by
    have := hf k (by simp)
    rw [h3] at this
    cases hk : ps'[k]? with
    | none => rw [hk] at this; cases this
    | some q =>
      rw [hk] at this
      simp only [Option.map_some, Option.some.injEq] at this
      exact ⟨h1, h2, q, hk, by rw [this]; exact h4.frame fun j hj => hf j (by simp [hj])⟩
theorem insL_srt {n : Nd} : ∀ {l : List Nd}, Srt l → getL n.a l = none → Srt (insL n l)
  | [], _, _ => List.pairwise_cons.2 ⟨by simp, List.Pairwise.nil⟩
  | x :: l, h, hg => by
    obtain ⟨h1, h2⟩ := List.pairwise_cons.1 h
    have hx : x.a ≠ n.a := fun e => by
      have := List.find?_eq_none.1 hg x (by simp)
      simp [e] at this
    have hg2 : getL n.a l = none := List.find?_eq_none.2 fun q hq => List.find?_eq_none.1 hg q (by simp [hq])
    simp only [insL]
    split
    · next hlt => exact List.pairwise_cons.2 ⟨fun q hq => by
        rcases List.mem_cons.1 hq with rfl | hq
        · exact hlt
        · have := h1 q hq; omega, h⟩
    · next hlt =>
      refine List.pairwise_cons.2 ⟨fun q hq => ?_, insL_srt h2 hg2⟩
      have : q = n ∨ q ∈ l := by
        clear h h1 h2 hg hg2
        induction l with
        | nil => simp only [insL, List.mem_singleton] at hq; exact .inl hq
        | cons y l ih =>
          simp only [insL] at hq
          split at hq
          · simpa using hq
          · rcases List.mem_cons.1 hq with rfl | hq
            · simp
            · rcases ih hq with h | h <;> simp [h]
      rcases this with rfl | hq
      · omega
      · exact h1 q hq
theorem insL_len (n : Nd) : ∀ l : List Nd, (insL n l).length = l.length + 1
  | [] => rfl
  | x :: l => by simp only [insL]; split <;> simp [insL_len n l]
theorem ids_len (T : Tr) : T.ids.length = T.ino.length := by simp [Tr.ids]
theorem ins_len (k : Nat) (a b c : Int) {T : Tr} (h : Srt T.ino) : (ins k a b c T).ids.length = T.ids.length + 1 := by
  rw [ids_len, ids_len, ins_ino k a b c T h, insL_len]
theorem take_free {n : Nat} {s : TS} (h : TOk n s) (hn : s.n < n) : ∃ (k : Nat) (p : Pl) (free : List Nat), s.fr = k ∧ 0 < k ∧ s.ps[k]? = some p ∧ Chn s.ps p.next free ∧ (s.T.ids ++ k :: free).Nodup ∧ s.n + free.length + 1 = n := by
  obtain ⟨free, h1, h2, h3⟩ := h.free
  cases free with
  | nil => simp at h3; omega
  | cons k free =>
    obtain ⟨e, h0, p, hp, hc⟩ := h1
    exact ⟨k, p, free, e, h0, hp, hc, h2, by simp at h3; omega⟩
theorem insS_ok {n : Nat} {s : TS} {a b c : Int} (h : TOk n s) (hn : s.n < n) (hg : getL a s.T.ino = none) : TOk n (insS s a b c) ∧ (insS s a b c).n = s.n + 1 := by
  obtain ⟨k, p, free, e, h0, hp, hc, hnd, hl⟩ := take_free h hn
  have hlen := ins_len k a b c h.srt
  have ek : s.fr.toNat = k := by rw [e]; rfl
  have en : (insS s a b c).n = s.n + 1 := by unfold TS.n insS; simp only [ek]; exact hlen
  have hnd2 := hnd
  simp only [List.nodup_append, List.nodup_cons, List.mem_cons, ne_eq] at hnd2
  obtain ⟨d1, ⟨d2, d3⟩, d4⟩ := hnd2
  have hkT : k ∉ s.T.ids := fun q => d4 k q k (.inl rfl) rfl
  have hin := ins_nodup k a b c s.T d1 hkT
  have hpos : ∀ j, j ∈ (ins k a b c s.T).ids → 0 < j ∧ j < (s.ps.set k ⟨true, 0, 0, 0, 0, 0, 0, 0⟩).length := fun j hj => by
    rw [List.length_set]
    rcases (ins_mem k a b c s.T j).1 hj with rfl | hj
    · exact ⟨h0, (List.getElem?_eq_some_iff.1 hp).1⟩
    · exact h.rep.pos j hj
  have f := layP_fr (s.ps.set k ⟨true, 0, 0, 0, 0, 0, 0, 0⟩) (ins k a b c s.T) (fun j hj => (hpos j hj).2)
  refine ⟨⟨?_, ?_, ?_, ?_, ?_, ?_⟩, en⟩ <;> simp only [insS, ek]
  · exact layP_rep _ _ hpos hin
  · exact f.zero (zero_set h0 h.zero) fun q => by have := hpos 0 q; omega
  · rw [f.len, List.length_set, h.len]
  · refine ⟨free, ?_, ?_, ?_⟩
    · rw [hp]
      exact hc.frame fun j hj => by rw [f.nx j]; rw [set_other (fun q : k = j => d2 (by rw [q]; exact hj))]
    · simp only [List.nodup_append, ne_eq]
      refine ⟨hin, d3, fun q hq q2 hq2 => ?_⟩
      rcases (ins_mem k a b c s.T q).1 hq with rfl | hq
      · intro q3; exact d2 (q3 ▸ hq2)
      · exact d4 q hq q2 (.inr hq2)
    · simp only [TS.n, insS, ek] at en ⊢; rw [hlen]; simp only [TS.n] at hl; omega
  · rw [ins_ino k a b c _ h.srt]; exact insL_srt h.srt hg
  · exact (ins_avl k a b c _ h.avl).1
theorem remL_len {k : Int} {l : List Nd} (h : Srt l) (hg : (getL k l).isSome = true) : (remL k l).length + 1 = l.length := by
  induction l with
  | nil => simp [getL] at hg
  | cons x l ih =>
    obtain ⟨h1, h2⟩ := List.pairwise_cons.1 h
    by_cases e : x.a = k
    · have : remL k (x :: l) = l := by
        simp only [remL]; rw [List.filter_cons_of_neg (by simp [e])]
        exact remL_no fun q hq => by have := h1 q hq; omega
      rw [this]; rfl
    · have e1 : remL k (x :: l) = x :: remL k l := by
        simp only [remL]; rw [List.filter_cons_of_pos (by simpa using e)]
      have e2 : getL k (x :: l) = getL k l := by
        simp only [getL, List.find?_cons]; rw [show (x.a == k) = false by simpa using e]
      rw [e2] at hg
      rw [e1]; simp only [List.length_cons]; rw [ih h2 hg]
theorem delS_ok {n : Nat} {s : TS} {k : Int} (h : TOk n s) (hg : (getL k s.T.ino).isSome = true) : TOk n (delS s k) ∧ (delS s k).n + 1 = s.n := by
  obtain ⟨free, hc, hnd, hl⟩ := h.free
  have hf : fid k s.T ≠ 0 := (fid_get k s.T h.srt fun j hj => (h.rep.pos j hj).1).2 hg
  have hfm := fid_mem k s.T hf
  have hfp := h.rep.pos _ hfm
  have hperm := rem_perm k s.T hf
  have en : (delS s k).n + 1 = s.n := by have := hperm.length_eq; simp only [List.length_cons] at this; unfold TS.n delS; simp only; omega
  have hnd2 := hnd
  simp only [List.nodup_append, ne_eq] at hnd2
  obtain ⟨d1, d3, d4⟩ := hnd2
  have hrn := (hperm.nodup_iff).1 d1
  obtain ⟨r1, r2⟩ := List.nodup_cons.1 hrn
  have sub : ∀ j, j ∈ (rem k s.T).ids → j ∈ s.T.ids := fun j hj => hperm.mem_iff.2 (by simp [hj])
  have hpos : ∀ j, j ∈ (rem k s.T).ids → 0 < j ∧ j < (s.ps.set (fid k s.T) (dead s.fr)).length := fun j hj => by
    rw [List.length_set]; exact h.rep.pos j (sub j hj)
  have f := layP_fr (s.ps.set (fid k s.T) (dead s.fr)) (rem k s.T) (fun j hj => (hpos j hj).2)
  refine ⟨⟨?_, ?_, ?_, ?_, ?_, ?_⟩, en⟩ <;> simp only [delS]
  · exact layP_rep _ _ hpos r2
  · exact f.zero (zero_set hfp.1 h.zero) fun q => by have := hpos 0 q; omega
  · rw [f.len, List.length_set, h.len]
  · refine ⟨fid k s.T :: free, ⟨rfl, hfp.1, dead s.fr, ?_, ?_⟩, ?_, ?_⟩
    · rw [f.get _ r1]; exact List.getElem?_set_self hfp.2
    · exact hc.frame fun j hj => by rw [f.nx j]; rw [set_other (fun q : fid k s.T = j => d4 _ hfm j hj q)]
    · simp only [List.nodup_append, List.nodup_cons, List.mem_cons, ne_eq]
      refine ⟨r2, ⟨fun q => d4 _ hfm _ q rfl, d3⟩, fun q hq q2 hq2 => ?_⟩
      rcases hq2 with rfl | hq2
      · intro e; exact r1 (e ▸ hq)
      · exact d4 q (sub q hq) q2 hq2
    · simp only [TS.n, delS, List.length_cons] at en hl ⊢; omega
  · rw [rem_ino k _ h.srt]; exact h.srt.filter _
  · exact (rem_avl k _ h.avl).1
theorem chgT_ino (a b c : Int) : ∀ T : Tr, Srt T.ino → (chgT a b c T).ino = T.ino.map fun x => if x.a = a then ⟨x.id, a, b, c⟩ else x
  | .lf, _ => rfl
  | .nd id l x y z r, h => by
    have hs : Srt (l.ino ++ ⟨id, x, y, z⟩ :: r.ino) := h
    obtain ⟨s1, s2, s3⟩ := List.pairwise_append.1 hs
    obtain ⟨s4, s5⟩ := List.pairwise_cons.1 s2
    have lx : ∀ q ∈ l.ino, q.a < x := fun q hq => s3 q hq ⟨id, x, y, z⟩ (by simp)
    have rx : ∀ q ∈ r.ino, x < q.a := fun q hq => s4 q hq
    have no : ∀ t : List Nd, (∀ q ∈ t, q.a ≠ a) → (t.map fun x => if x.a = a then (⟨x.id, a, b, c⟩ : Nd) else x) = t := fun t ht => (List.map_congr_left (g := fun q => q) fun q hq => if_neg (ht q hq)).trans (List.map_id' t)
    simp only [chgT]
    by_cases h1 : a < x
    · rw [if_pos h1]; simp only [Tr.ino, List.map_append, List.map_cons]
      rw [chgT_ino a b c l s1, if_neg (by omega), no r.ino fun q hq => by have := rx q hq; omega]
    · rw [if_neg h1]
      by_cases h2 : x < a
      · rw [if_pos h2]; simp only [Tr.ino, List.map_append, List.map_cons]
        rw [chgT_ino a b c r s5, if_neg (by omega), no l.ino fun q hq => by have := lx q hq; omega]
      · rw [if_neg h2]; simp only [Tr.ino, List.map_append, List.map_cons]
        rw [if_pos (by omega), no l.ino fun q hq => by have := lx q hq; omega, no r.ino fun q hq => by have := rx q hq; omega]
theorem chgT_avl (a b c : Int) : ∀ T : Tr, Avl T → Avl (chgT a b c T)
  | .lf, h => h
  | .nd id l x y z r, ⟨h1, h2, h3, h4⟩ => by
    simp only [chgT]; split
    · exact ⟨by rw [chgT_ht]; exact h1, by rw [chgT_ht]; exact h2, chgT_avl a b c l h3, h4⟩
    · split
      · exact ⟨by rw [chgT_ht]; exact h1, by rw [chgT_ht]; exact h2, h3, chgT_avl a b c r h4⟩
      · exact ⟨h1, h2, h3, h4⟩
theorem chgS_ok {n : Nat} {s : TS} {a b c : Int} (h : TOk n s) (hg : (getL a s.T.ino).isSome = true) : TOk n (chgS s a b c) ∧ (chgS s a b c).n = s.n := by
  obtain ⟨free, hc, hnd, hl⟩ := h.free
  have hf : fid a s.T ≠ 0 := (fid_get a s.T h.srt fun j hj => (h.rep.pos j hj).1).2 hg
  have hfm := fid_mem a s.T hf
  have hfp := h.rep.pos _ hfm
  have hp := List.getElem?_eq_getElem hfp.2
  have en : (chgS s a b c).n = s.n := by simp only [TS.n, chgS, chgT_ids]
  refine ⟨⟨?_, ?_, ?_, ?_, ?_, ?_⟩, en⟩ <;> simp only [chgS]
  · rw [hp]; exact chgT_rep h.rep h.nd hf hp
  · rw [hp]; exact zero_set hfp.1 h.zero
  · rw [hp]; simp only [List.length_set, h.len]
  · rw [hp]
    refine ⟨free, hc.frame fun j hj => ?_, by rw [chgT_ids]; exact hnd, by simp only [TS.n, chgT_ids] at hl ⊢; exact hl⟩
    exact (Fr.set hp ⟨true, _, _, _, _, a, b, c⟩ rfl).nx j
  · rw [chgT_ino a b c _ h.srt]
    refine List.pairwise_map.2 (h.srt.imp ?_)
    intro x y hxy
    split <;> split <;> simp_all <;> omega
  · exact chgT_avl a b c _ h.avl
theorem newS_ok (n : Nat) (h1 : 1 ≤ n) : TOk n ⟨iniP n n, 1, .lf⟩ := by
  refine ⟨trivial, fun p hp => ?_, iniP_len n n, ?_, List.Pairwise.nil, trivial⟩
  · rw [iniP_get n n 0 (Nat.zero_le _)] at hp; obtain rfl := Option.some.inj hp; rfl
  · have H : ∀ m k, k + m = n → 0 < k → Chn (iniP n n) k (List.range' k (m + 1)) := by
      intro m
      induction m with
      | zero =>
        intro k hk h0
        refine ⟨rfl, h0, _, iniP_get n n k (by omega), ?_⟩
        simp only; rw [if_neg (by omega)]; rfl
      | succ m ih =>
        intro k hk h0
        refine ⟨rfl, h0, _, iniP_get n n k (by omega), ?_⟩
        simp only; rw [if_pos (by omega)]
        exact ih (k + 1) (by omega) (by omega)
    refine ⟨List.range' 1 n, ?_, ?_, ?_⟩
    · have := H (n - 1) 1 (by omega) (by omega)
      rw [show n - 1 + 1 = n by omega] at this; exact this
    · simp only [ids_lf, List.nil_append]; exact List.nodup_range'
    · simp [TS.n, ids_lf]
end Go.Proofs.Ytpogfelbimcglaa.Am

