/- Functions of the pages, walked. Conditions: those of each theorem. -/
import Derived.Test.YtnogdgdkeojlpaaAm5
import Derived.Test.YtnogdgdkeojlpaaTgb
import Derived.Test.YtnogdgdkeojlpaaTg6
namespace Go.Proofs.Ytnogdgdkeojlpaa.Am
open Go.Proofs
set_option maxRecDepth 1000000
set_option maxHeartbeats 4000000
set_option linter.unusedSimpArgs false
set_option linter.unusedVariables false
theorem mapL_pgV (s : Nat → Nat) (k a b c d e f : Int) (P : List Int) : mapL s (pgV k a b c d e f P) = pgV k a b c d e f P := mapL_plain s _ (okL_pgV 0 ..)
theorem pad_byt {s : List Int} (hs : Byt s) (i : Nat) : Byt (padB s i) := by
  intro x hx
  unfold padB at hx
  rcases List.mem_append.1 hx with h | h
  · exact hs x (List.mem_of_mem_take h)
  · have := List.eq_of_mem_replicate h; omega
theorem rep_byt (n : Nat) : Byt (List.replicate n 255) := by
  intro x hx; have := List.eq_of_mem_replicate hx; omega
/-- Pages torn: bytes behind the first chunks are 255. -/
def tornL (B : List Int) (cn : Nat) : List Int := over2 B (4 * cn) (List.replicate (68 - 4 * cn) 255)
theorem torn_len {B : List Int} {cn : Nat} (hB : B.length = 68) (h : cn ≤ 17) : (tornL B cn).length = 68 := by
  unfold tornL; rw [over2_length (by rw [List.length_replicate]; omega)]; exact hB
theorem torn_byt {B : List Int} {cn : Nat} (hB : Byt B) : Byt (tornL B cn) := over2_byt hB (rep_byt _)
theorem torn_0 {B : List Int} (hB : B.length = 68) : dErr (tornL B 0) = 4 ∧ cleanB (tornL B 0) = true := by
  have hl := torn_len hB (cn := 0) (by omega)
  have hc : cleanB (tornL B 0) = true := by
    unfold cleanB
    rw [hl, Bool.and_eq_true]
    refine ⟨rfl, List.all_eq_true.2 fun x hx => ?_⟩
    obtain ⟨i, hi⟩ := List.getElem?_of_mem hx
    unfold tornL at hi
    rw [over2_get (by rw [List.length_replicate]; omega), List.length_replicate] at hi
    have hlt : i < 68 := by
      refine Classical.byContradiction fun h => ?_
      rw [if_neg (by omega), if_neg (by omega), List.getElem?_eq_none (by omega)] at hi; cases hi
    rw [if_neg (by omega), if_pos (by omega), List.getElem?_replicate, if_pos (by omega)] at hi
    rw [← Option.some.inj hi]; rfl
  exact ⟨by unfold dErr; rw [if_neg (by omega), if_pos hc], hc⟩
theorem torn_mid {B : List Int} {cn : Nat} (hB : B.length = 68) (h0 : 1 ≤ cn) (h1 : cn ≤ 16) (hb : B.getD 0 0 ≤ 3) : dErr (tornL B cn) = 9 ∧ cleanB (tornL B cn) = false := by
  have hl := torn_len hB (cn := cn) (by omega)
  have g : ∀ i, (tornL B cn)[i]? = if i < 4 * cn then B[i]? else if i < 68 then some 255 else none := fun i => by
    unfold tornL
    rw [over2_get (by rw [List.length_replicate]; omega), List.length_replicate]
    by_cases h : i < 4 * cn
    · rw [if_pos h, if_pos h]
    · rw [if_neg h, if_neg h]
      by_cases h2 : i < 68
      · rw [if_pos (by omega), if_pos h2, List.getElem?_replicate, if_pos (by omega)]
      · rw [if_neg (by omega), if_neg h2, List.getElem?_eq_none (by omega)]
  have hc : cleanB (tornL B cn) = false := by
    unfold cleanB
    rw [Bool.and_eq_false_iff]; right
    refine Bool.eq_false_iff.2 fun h => ?_
    have h3 : (tornL B cn)[0]? = some (B.getD 0 0) := by rw [g, if_pos (by omega)]; exact get_at (by omega)
    have h5 := eq_of_beq (List.all_eq_true.1 h _ (List.mem_of_getElem? h3))
    omega
  refine ⟨?_, hc⟩
  unfold dErr
  rw [if_neg (by omega), if_neg (by rw [hc]; exact Bool.false_ne_true), if_pos]
  intro e
  have h4 : ((tornL B cn).drop 64)[0]? = some 68 := by rw [e]; rfl
  rw [List.getElem?_drop, g, if_neg (by omega), if_pos (by omega)] at h4
  simp at h4
theorem torn_17 {B : List Int} (hB : B.length = 68) : tornL B 17 = B := by
  unfold tornL
  apply List.ext_getElem?
  intro i
  rw [over2_get (by rw [List.length_replicate]; omega), List.length_replicate]
  by_cases h : i < 4 * 17
  · rw [if_pos h]
  · rw [if_neg h, if_neg (by omega)]
theorem decE {I : List Int} {er : Int} (hl : I.length = 68) (hb : Byt I) (he : dErr I = er) (h0 : ¬ er = 0) : FM Try.prog 10 [.sl (some (0,0)) 68 68 false] [some ⟨cellsR (rwI .u8) I, 5, false⟩] (fun v M' => v = .tup [.agg pgZ, .i .i64 er] ∧ M' = [some ⟨cellsR (rwI .u8) I, 5, false⟩]) := by
  have ht : I.take 68 = I := List.take_of_length_le (by omega)
  have D := dec_err_f I 68 68 er hb (Nat.le_refl _) (by omega) (by omega) (by rw [ht]; exact he) h0
  rw [ht] at D
  have hO : pgO I = pgZ := by unfold pgO; rw [if_neg (by rw [he]; exact h0)]
  rw [hO] at D
  exact D
theorem decK {I : List Int} {pg : List V} (hl : I.length = 68) (hb : Byt I) (he : dErr I = 0) (hp : pgJ I = pg) : FM Try.prog 10 [.sl (some (0,0)) 68 68 false] [some ⟨cellsR (rwI .u8) I, 5, false⟩] (fun v M' => v = .tup [.agg pg, .i .i64 0] ∧ M' = [some ⟨cellsR (rwI .u8) I, 5, false⟩]) := by
  have ht : I.take 68 = I := List.take_of_length_le (by omega)
  have D := dec_ok_f I 68 68 hb (Nat.le_refl _) (by omega) (by omega) (by rw [ht]; exact he)
  rw [ht] at D
  have hO : pgO I = pg := by unfold pgO; rw [if_pos he, hp]
  rw [hO] at D
  exact D
theorem clnW {I : List Int} (hl : I.length = 68) (hb : Byt I) : FM Try.prog 11 [.sl (some (0,0)) 68 68 false] [some ⟨cellsR (rwI .u8) I, 5, false⟩] (fun v M' => v = .b (cleanB I) ∧ M' = [some ⟨cellsR (rwI .u8) I, 5, false⟩]) := by
  have C := clean_walk I 68 68 false hb (by omega) (by omega)
  rwa [List.take_of_length_le (by omega)] at C
end Go.Proofs.Ytnogdgdkeojlpaa.Am

