/- Functions of the pages, walked. Conditions: those of each theorem. -/
import Derived.Test.YtnogdgdkeojlpaaAm5
import Derived.Test.YtnogdgdkeojlpaaTg8
namespace Go.Proofs.Ytnogdgdkeojlpaa.Am
open Go.Proofs
set_option maxRecDepth 1000000
set_option maxHeartbeats 4000000
set_option linter.unusedSimpArgs false
set_option linter.unusedVariables false
/-- A page's first 28 bytes. -/
def head28 (k a b c d e f : Int) : List Int := wr .u8 k :: 0 :: 0 :: 0 :: (le4 a ++ (le4 b ++ (le4 c ++ (le4 d ++ (le4 e ++ le4 f)))))
theorem EB6 (k a b c d e f : Int) : EB k [a, b, c, d, e, f] 6 = head28 k a b c d e f ++ List.replicate 40 0 := by
  simp only [EB, List.getD_cons_zero, List.getD_cons_succ]
  rfl
theorem over2_mid {α : Type} {A Z ys : List α} {o : Nat} (ho : A.length = o) (hz : ys.length ≤ Z.length) : over2 (A ++ Z) o ys = A ++ ys ++ Z.drop ys.length := by
  subst ho
  simp only [over2, List.take_left, List.drop_append, List.append_assoc]
  rw [List.drop_of_length_le (show A.length ≤ A.length + ys.length by omega)]
  simp
theorem head_len (k a b c d e f : Int) : (head28 k a b c d e f).length = 28 := rfl
theorem encO_eq (k a b c d e f : Int) (P : List Int) (hP : P.length = 32) : encO k [a, b, c, d, e, f] P = head28 k a b c d e f ++ P ++ le4 (crcM 0 (head28 k a b c d e f ++ P)) ++ [68, 79, 78, 69] := by
  unfold encO
  rw [EB6, over2_mid (head_len ..) (by rw [hP, List.length_replicate]; omega)]
  have h1 : (head28 k a b c d e f ++ P).length = 60 := by rw [List.length_append, head_len, hP]
  generalize head28 k a b c d e f ++ P = A at *
  have h2 : (A ++ List.drop P.length (List.replicate 40 (0 : Int))).take 60 = A := by rw [← h1]; exact List.take_left
  simp only [h2]
  rw [over2_mid h1 (by rw [hP]; exact Nat.le_of_ble_eq_true rfl), over2_mid (by rw [List.length_append, h1]; rfl) (by rw [hP]; exact Nat.le_of_ble_eq_true rfl)]
  rw [hP]
  show A ++ _ ++ [68, 79, 78, 69] ++ [] = _
  rw [List.append_nil]
theorem head_byt (k a b c d e f : Int) : Byt (head28 k a b c d e f) := by
  intro x hx
  simp only [head28, List.mem_cons, List.mem_append] at hx
  rcases hx with rfl | rfl | rfl | rfl | h | h | h | h | h | h
  · exact wr8_byt _
  · omega
  · omega
  · omega
  all_goals exact le4_byt _ x h
theorem byt_app {A B : List Int} (hA : Byt A) (hB : Byt B) : Byt (A ++ B) := fun x hx => (List.mem_append.1 hx).elim (hA x) (hB x)
theorem encO_byt (k a b c d e f : Int) (P : List Int) (hP : P.length = 32) (hB : Byt P) : Byt (encO k [a, b, c, d, e, f] P) := by
  rw [encO_eq _ _ _ _ _ _ _ _ hP]
  exact byt_app (byt_app (byt_app (head_byt k a b c d e f) hB) (le4_byt _)) mark_byt
theorem encO_len (k a b c d e f : Int) (P : List Int) (hP : P.length = 32) : (encO k [a, b, c, d, e, f] P).length = 68 := by
  rw [encO_eq _ _ _ _ _ _ _ _ hP]
  simp only [List.length_append, head_len, hP]; rfl
def u32 (v : Int) : Prop := 0 ≤ v ∧ v < 4294967296
theorem ge_pre {l r : List Int} {o : Nat} {v : Int} (h : ∀ i, i < 4 → (l ++ r)[o + i]? = (le4 v)[i]?) (hv : u32 v) : ge4 (l ++ r) o = v := by
  unfold ge4
  rw [geN_congr (g := fun i => (le4 v).getD i 0) fun i hi => by rw [List.getD_eq_getElem?_getD, List.getD_eq_getElem?_getD, h i hi]]
  exact ge_le v hv
theorem enc_dec (k a b c d e f : Int) (P : List Int) (hk : okK k) (ha : u32 a) (hb : u32 b) (hc : u32 c) (hd : u32 d) (he : u32 e) (hf : u32 f) (hP : P.length = 32) (hB : Byt P) :
    dErr (encO k [a, b, c, d, e, f] P) = 0 ∧ pgJ (encO k [a, b, c, d, e, f] P) = pgV k a b c d e f P ∧ cleanB (encO k [a, b, c, d, e, f] P) = false := by
  have hl := encO_len k a b c d e f P hP
  have hk2 : 1 ≤ k ∧ k ≤ 3 := by rcases hk with rfl | rfl | rfl <;> omega
  have hwk : wr .u8 k = k := by unfold wr; rw [if_pos (by simp only [lo]; omega), if_pos (by simp only [Am.hi]; omega)]
  have hq := encO_eq k a b c d e f P hP
  have hcr := crc_rng (head28 k a b c d e f ++ P) (byt_app (head_byt k a b c d e f) hB)
  have hA : (head28 k a b c d e f ++ P).length = 60 := by rw [List.length_append, head_len, hP]
  have g : ∀ (v : Int) (o : Nat), u32 v → o + 4 ≤ 28 → (∀ i, i < 4 → (head28 k a b c d e f)[o + i]? = (le4 v)[i]?) → ge4 (encO k [a, b, c, d, e, f] P) o = v := fun v o hv ho h => by
    rw [hq, List.append_assoc, List.append_assoc]
    refine ge_pre (fun i hi => ?_) hv
    rw [List.getElem?_append_left (by rw [head_len]; omega)]
    exact h i hi
  have four : ∀ (p : Nat → Prop), p 0 → p 1 → p 2 → p 3 → ∀ i, i < 4 → p i := fun p h0 h1 h2 h3 i hi => by
    obtain rfl | rfl | rfl | rfl : i = 0 ∨ i = 1 ∨ i = 2 ∨ i = 3 := by omega
    all_goals assumption
  have ga := g a 4 ha (by omega) (four _ rfl rfl rfl rfl)
  have gb := g b 8 hb (by omega) (four _ rfl rfl rfl rfl)
  have gc := g c 12 hc (by omega) (four _ rfl rfl rfl rfl)
  have gd := g d 16 hd (by omega) (four _ rfl rfl rfl rfl)
  have ge := g e 20 he (by omega) (four _ rfl rfl rfl rfl)
  have gf := g f 24 hf (by omega) (four _ rfl rfl rfl rfl)
  clear g
  have at0 : ∀ i, i < 4 → (encO k [a, b, c, d, e, f] P).getD i 0 = (head28 k a b c d e f).getD i 0 := fun i hi => by
    rw [hq, List.append_assoc, List.append_assoc, List.getD_eq_getElem?_getD, List.getD_eq_getElem?_getD, List.getElem?_append_left (by rw [head_len]; omega)]
  have a0 : (encO k [a, b, c, d, e, f] P).getD 0 0 = k := (at0 0 (by omega)).trans hwk
  have a1 : (encO k [a, b, c, d, e, f] P).getD 1 0 = 0 := at0 1 (by omega)
  have a2 : (encO k [a, b, c, d, e, f] P).getD 2 0 = 0 := at0 2 (by omega)
  have a3 : (encO k [a, b, c, d, e, f] P).getD 3 0 = 0 := at0 3 (by omega)
  have hcl : cleanB (encO k [a, b, c, d, e, f] P) = false := by
    unfold cleanB
    rw [Bool.and_eq_false_iff]; right
    refine Bool.eq_false_iff.2 fun h => ?_
    have := List.all_eq_true.1 h ((encO k [a, b, c, d, e, f] P).getD 0 0) (List.mem_of_getElem? (get_at (by omega)))
    rw [a0] at this
    simp at this; omega
  have h60 : (encO k [a, b, c, d, e, f] P).take 60 = head28 k a b c d e f ++ P := by
    rw [hq, List.append_assoc, ← hA]; exact List.take_left
  have hmk : (encO k [a, b, c, d, e, f] P).drop 64 = [68, 79, 78, 69] := by
    rw [hq]
    have : (head28 k a b c d e f ++ P ++ le4 (crcM 0 (head28 k a b c d e f ++ P))).length = 64 := by rw [List.length_append, hA]; rfl
    rw [← this]; exact List.drop_left
  have hpay : ((encO k [a, b, c, d, e, f] P).drop 28).take 32 = P := by
    rw [hq, List.append_assoc, List.append_assoc]
    have h1 : ∀ B : List Int, (head28 k a b c d e f ++ (P ++ B)).drop 28 = P ++ B := fun B => by rw [← head_len k a b c d e f]; exact List.drop_left
    rw [h1, ← hP]; exact List.take_left
  have gs : ge4 (encO k [a, b, c, d, e, f] P) 60 = crcM 0 (head28 k a b c d e f ++ P) := by
    rw [hq, List.append_assoc]
    refine ge_pre (fun i hi => ?_) hcr
    rw [List.getElem?_append_right (by omega), hA, List.getElem?_append_left (by show _ < 4; omega), show 60 + i - 60 = i by omega]
  refine ⟨?_, ?_, hcl⟩
  · unfold dErr
    rw [if_neg (by omega), if_neg (by rw [hcl]; exact Bool.false_ne_true), if_neg (fun z => z hmk), if_neg (fun z => z (by rw [gs, h60])), if_neg (fun z => z ⟨by rw [a0]; exact hk, a1, a2, a3⟩)]
  · unfold pgJ; rw [a0, ga, gb, gc, gd, ge, gf, hpay]
end Go.Proofs.Ytnogdgdkeojlpaa.Am

