/- For any two lists of bytes, together of bulk at most 1048576: the sum of the first, gone on with over the second, is the sum of both, one behind the other. -/
import Derived.Test.YtfbbphpgiblhlaaPCrcJoinsx1
import Derived.Test.YtfbbphpgiblhlaaCrcMath
namespace Go.Proofs.Ytfbbphpgiblhlaa.Pure
open Go.RowKit Go.Proofs.Ytfbbphpgiblhlaa.PCrcJoins Go.Proofs.YtfbbphpgiblhlaaW.PrintWords Go.Proofs.YtfbbphpgiblhlaaW.PrintLast Go.Proofs.Ytfbbphpgiblhlaa.Crc

theorem w64 {i n : Int} (h0 : 0 ≤ i) (h : i < n) (hn : n ≤ 281474976710656) : wrap64 (i + 1) = i + 1 := by unfold wrap64; omega

theorem inner (xs : List Int) (n i : Int) (r : Int) (d : Nat) : ∀ (c : BitVec 32) (j : Int), 0 ≤ j → 8 - j = d → wrap64 (i + 1) = i + 1 →
    Ev (fun k => crc_More.l0 k ((stps d c).toNat : Int) xs n (i + 1)) r → Ev (fun k => crc_More.l1 k (c.toNat : Int) xs n i j) r := by
  induction d with
  | zero =>
    intro c j h0 hd hw h
    refine Ev.step (fun k => ?_) h
    simp only [crc_More.l1]
    rw [if_neg (by omega), hw]; rfl
  | succ d ih =>
    intro c j h0 hd hw h
    have hj : wrap64 (j + 1) = j + 1 := by unfold wrap64; omega
    refine Ev.step (fun k => ?_) (ih (stp c) (j + 1) (by omega) (by omega) hw h)
    simp only [crc_More.l1]
    rw [if_pos (by omega), hj, half32, ← poly32, xor32]
    unfold stp
    by_cases hb : c.getLsbD 0 = true
    · rw [if_pos ((low32 c).2 hb), if_pos hb]
    · rw [if_neg (fun h => hb ((low32 c).1 h)), if_neg hb]

theorem outer (xs : List Int) (hl : xs.length ≤ 281474976710656) (d : Nat) : ∀ (c : BitVec 32) (i : Int), 0 ≤ i → (xs.length : Int) - i = d →
    Ev (fun k => crc_More.l0 k (c.toNat : Int) xs (xs.length : Int) i) ((~~~ (crun c (xs.drop i.toNat))).toNat : Int) := by
  induction d with
  | zero =>
    intro c i h0 hd
    refine Ev.step (fun k => ?_) (Ev.now _)
    simp only [crc_More.l0]
    rw [if_neg (by omega), all32, List.drop_of_length_le (by omega)]; rfl
  | succ d ih =>
    intro c i h0 hd
    have hw := w64 h0 (show i < (xs.length : Int) by omega) (by omega)
    have hi : i.toNat < xs.length := by omega
    have e : xs.drop i.toNat = rd xs i :: xs.drop (i + 1).toNat := by
      rw [List.drop_eq_getElem_cons hi, show (i + 1).toNat = i.toNat + 1 by omega]
      congr 1
      simp [rd, hi]
    refine Ev.step (f := fun k => crc_More.l1 k ((c ^^^ BitVec.ofInt 32 (rd xs i)).toNat : Int) xs (xs.length : Int) i 0) (fun k => ?_) ?_
    · simp only [crc_More.l0]
      rw [if_pos (by omega), if_pos h0, if_pos (by omega), byte32, xor32]
    · refine inner xs _ i _ 8 _ 0 (by omega) (by omega) hw ?_
      rw [e]
      exact ih (bstep c (rd xs i)) (i + 1) (by omega) (by omega)

theorem more_ev (s : BitVec 32) (xs : List Int) (hl : xs.length ≤ 281474976710656) : Ev (fun k => crc_More.f k (s.toNat : Int) xs) ((cmore s xs).toNat : Int) := by
  have h := outer xs hl xs.length (~~~ s) 0 (by omega) (by omega)
  refine Ev.congr (fun k => ?_) h
  simp only [crc_More.f]
  rw [all32]
theorem sum_ev (xs : List Int) (hl : xs.length ≤ 281474976710656) : Ev (fun k => crc_Sum.f k xs) ((cmore 0#32 xs).toNat : Int) := by
  refine Ev.congr (fun k => by rw [crc_Sum.f]) (Ev.bind (g := fun k => crc_More.f k 0 xs) (more_ev 0#32 xs hl) (Ev.now _))

theorem awake_true : Ev (fun k => ferrulelaw1_awake.f k) true := Ev.of (fun k => ferrulelaw1_awake.mono k) (k := 200) (by decide +kernel)

theorem CrcJoins : ferrulelaw1_CrcJoins.Pure := by
  intro a b _ _ _ _ _ _ ha hb
  refine Ev.rounds (g := fun k => ferrulelaw1_CrcJoins.f k a b) (r := true) ?_
  refine Ev.congr (fun k => by rw [ferrulelaw1_CrcJoins.f]) ?_
  refine Ev.bind awake_true ?_
  refine Ev.congr (fun k => by rw [if_pos rfl]) ?_
  refine Ev.bind (sum_ev a (by omega)) ?_
  refine Ev.bind (more_ev _ b (by omega)) ?_
  refine Ev.congr (fun k => by simp only [Option.bind_some, List.nil_append, List.length_nil]; rw [if_pos (by omega), if_pos (by omega)]) ?_
  refine Ev.bind (sum_ev (a ++ b) (by simp; omega)) ?_
  refine Ev.congr (fun k => ?_) (Ev.now true)
  rw [cmore_more]
  simp

end Go.Proofs.Ytfbbphpgiblhlaa.Pure
