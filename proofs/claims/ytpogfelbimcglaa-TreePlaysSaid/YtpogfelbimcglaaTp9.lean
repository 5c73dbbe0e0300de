/- Functions of the tree and of the law TreePlays, walked. Conditions: those of each theorem. -/
import Derived.Test.YtpogfelbimcglaaTp8
namespace Go.Proofs.Ytpogfelbimcglaa.Am
open Go.Proofs
set_option maxRecDepth 1000000
set_option maxHeartbeats 4000000
set_option linter.unusedSimpArgs false
set_option linter.unusedVariables false
theorem change_det {n : Nat} {s : TS} {a : Int} (b c : Int) (h : TOk n s) (hm : n ≤ 512) (hg : (getL a s.T.ino).isSome = true) :
    FM Try.prog 14 [.p (some (2,0)), .agg [.i .i64 a, .i .i64 b, .i .i64 c]] (tsM s) (fun v M' => v = .i .i64 0 ∧ M' = tsM (chgS s a b c)) := by
  have hl := h.len
  have hf : fid a s.T ≠ 0 := (fid_get a s.T h.srt fun j hj => (h.rep.pos j hj).1).2 hg
  have hfp := h.rep.pos _ (fid_mem a s.T hf)
  have hp := List.getElem?_eq_getElem hfp.2
  have C := change_ok s.ps s.fr s.n s.n a b c s.T _ h.rep hf hp (by omega)
  refine C.mono ?_
  rintro v M' ⟨e1, e2⟩
  refine ⟨e1, e2.trans ?_⟩
  simp only [tsM, chgS, hp, TS.n, chgT_id, chgT_ids]
theorem runs_chg {n : Nat} {s : TS} {a b c : Int} (h : TOk n s) {j : Nat} {x : Rn} (hx : (runsT s.T)[j]? = some x) (hxa : x.a = a) : runsT (chgS s a b c).T = (runsT s.T).set j ⟨a, b, c⟩ := by
  have hs := List.pairwise_iff_getElem.1 h.srt
  apply List.ext_getElem?
  intro i
  simp only [chgS, runsT, chgT_ino a b c s.T h.srt, List.map_map, List.getElem?_map, List.getElem?_set, List.length_map]
  simp only [runsT, List.getElem?_map, Option.map_eq_some_iff] at hx
  obtain ⟨y, hy, rfl⟩ := hx
  have hjl := (List.getElem?_eq_some_iff.1 hy)
  obtain ⟨l1, e1⟩ := hjl
  by_cases hij : j = i
  · subst hij
    rw [if_pos rfl, if_pos l1, hy]
    simp only [Option.map_some, Function.comp]
    rw [if_pos hxa]
  · rw [if_neg hij]
    cases hi : s.T.ino[i]? with
    | none => rfl
    | some z =>
      obtain ⟨l2, e2⟩ := List.getElem?_eq_some_iff.1 hi
      simp only [Option.map_some, Function.comp]
      rw [if_neg]
      intro hz
      simp only at hxa
      rcases Nat.lt_or_ge i j with h1 | h1
      · have := hs i j l2 l1 h1; rw [e1, e2] at this; omega
      · have := hs j i l1 l2 (by omega); rw [e1, e2] at this; omega
theorem insL_map (n : Nd) : ∀ l : List Nd, (insL n l).map toRn = insR (toRn n) (l.map toRn)
  | [] => rfl
  | x :: l => by
    simp only [insL, insR, List.map_cons]
    by_cases h : n.a < x.a
    · rw [if_pos h, if_pos (show (toRn x).a > (toRn n).a from h)]; rfl
    · rw [if_neg h, if_neg (show ¬ (toRn x).a > (toRn n).a from h), List.map_cons, insL_map n l]
theorem runs_insS {n : Nat} {s : TS} {a b c : Int} (h : TOk n s) : runsT (insS s a b c).T = insR ⟨a, b, c⟩ (runsT s.T) := by
  have e : runsT (insS s a b c).T = (insL ⟨s.fr.toNat, a, b, c⟩ s.T.ino).map toRn := by rw [← insS_ino h]; rfl
  rw [e, insL_map]; rfl
theorem filt_at {a : Int} : ∀ {L : List Rn} {j : Nat} {x : Rn}, L.Pairwise (fun x y => x.a < y.a) → L[j]? = some x → x.a = a → (L.filter fun r => r.a != a) = L.take j ++ L.drop (j + 1)
  | [], j, x, _, hx, _ => by simp at hx
  | y :: L, 0, x, hs, hx, hxa => by
    obtain ⟨h1, h2⟩ := List.pairwise_cons.1 hs
    simp only [List.getElem?_cons_zero, Option.some.injEq] at hx
    subst hx
    rw [List.filter_cons_of_neg (by simp [hxa])]
    simp only [List.take_zero, List.nil_append, Nat.zero_add, List.drop_succ_cons, List.drop_zero]
    exact List.filter_eq_self.2 fun z hz => by have := h1 z hz; simp; omega
  | y :: L, j + 1, x, hs, hx, hxa => by
    obtain ⟨h1, h2⟩ := List.pairwise_cons.1 hs
    simp only [List.getElem?_cons_succ] at hx
    have hya : y.a ≠ a := by have := h1 x (List.mem_of_getElem? hx); omega
    rw [List.filter_cons_of_pos (by simpa using hya), filt_at h2 hx hxa]
    simp
theorem runs_delS {n : Nat} {s : TS} {a : Int} (h : TOk n s) {j : Nat} {x : Rn} (hx : (runsT s.T)[j]? = some x) (hxa : x.a = a) : runsT (delS s a).T = (runsT s.T).take j ++ (runsT s.T).drop (j + 1) := by
  have e : runsT (delS s a).T = (runsT s.T).filter fun r => r.a != a := by
    simp only [runsT, delS_ino h, remL, List.filter_map]; rfl
  rw [e]
  exact filt_at (List.pairwise_map.2 h.srt) hx hxa
end Go.Proofs.Ytpogfelbimcglaa.Am

