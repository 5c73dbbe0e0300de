/- For any three lists of bytes of one length: the sum of their bytes, put together by xor, is their sums, put together by xor. Conditions: none beyond the row's own. -/
import Derived.Test.YtfbbphpgiblhlaaPCrcLinearx1
import Derived.Test.YtfbbphpgiblhlaaCrcMath
namespace Go.Proofs.Ytfbbphpgiblhlaa.Pure
open Go.RowKit Go.Proofs.Ytfbbphpgiblhlaa.PCrcLinear Go.Proofs.YtfbbphpgiblhlaaW.PrintWords Go.Proofs.YtfbbphpgiblhlaaW.PrintLast Go.Proofs.Ytfbbphpgiblhlaa.Crc

theorem w64 {i n : Int} (h0 : 0 ≤ i) (h : i < n) (hn : n ≤ 281474976710656) : wrap64 (i + 1) = i + 1 := by unfold wrap64; omega

theorem inner (xs : List Int) (n i : Int) (r : Int) (d : Nat) : ∀ (c : BitVec 32) (j : Int), 0 ≤ j → 8 - j = d → wrap64 (i + 1) = i + 1 →
    Ev (fun k => crc_More.l0 k ((stps d c).toNat : Int) xs n (i + 1)) r → Ev (fun k => crc_More.l1 k (c.toNat : Int) xs n i j) r := by
  induction d with
  | zero =>
    intro c j h0 hd hw h
    refine Ev.step (fun k => ?_) h
    simp only [crc_More.l1]
    rw [if_neg (by omega), hw]; rfl
  | succ d ih =>
    intro c j h0 hd hw h
    have hj : wrap64 (j + 1) = j + 1 := by unfold wrap64; omega
    refine Ev.step (fun k => ?_) (ih (stp c) (j + 1) (by omega) (by omega) hw h)
    simp only [crc_More.l1]
    rw [if_pos (by omega), hj, half32, ← poly32, xor32]
    unfold stp
    by_cases hb : c.getLsbD 0 = true
    · rw [if_pos ((low32 c).2 hb), if_pos hb]
    · rw [if_neg (fun h => hb ((low32 c).1 h)), if_neg hb]

theorem outer (xs : List Int) (hl : xs.length ≤ 281474976710656) (d : Nat) : ∀ (c : BitVec 32) (i : Int), 0 ≤ i → (xs.length : Int) - i = d →
    Ev (fun k => crc_More.l0 k (c.toNat : Int) xs (xs.length : Int) i) ((~~~ (crun c (xs.drop i.toNat))).toNat : Int) := by
  induction d with
  | zero =>
    intro c i h0 hd
    refine Ev.step (fun k => ?_) (Ev.now _)
    simp only [crc_More.l0]
    rw [if_neg (by omega), all32, List.drop_of_length_le (by omega)]; rfl
  | succ d ih =>
    intro c i h0 hd
    have hw := w64 h0 (show i < (xs.length : Int) by omega) (by omega)
    have hi : i.toNat < xs.length := by omega
    have e : xs.drop i.toNat = rd xs i :: xs.drop (i + 1).toNat := by
      rw [List.drop_eq_getElem_cons hi, show (i + 1).toNat = i.toNat + 1 by omega]
      congr 1
      simp [rd, hi]
    refine Ev.step (f := fun k => crc_More.l1 k ((c ^^^ BitVec.ofInt 32 (rd xs i)).toNat : Int) xs (xs.length : Int) i 0) (fun k => ?_) ?_
    · simp only [crc_More.l0]
      rw [if_pos (by omega), if_pos h0, if_pos (by omega), byte32, xor32]
    · refine inner xs _ i _ 8 _ 0 (by omega) (by omega) hw ?_
      rw [e]
      exact ih (bstep c (rd xs i)) (i + 1) (by omega) (by omega)

theorem more_ev (s : BitVec 32) (xs : List Int) (hl : xs.length ≤ 281474976710656) : Ev (fun k => crc_More.f k (s.toNat : Int) xs) ((cmore s xs).toNat : Int) := by
  have h := outer xs hl xs.length (~~~ s) 0 (by omega) (by omega)
  refine Ev.congr (fun k => ?_) h
  simp only [crc_More.f]
  rw [all32]
theorem sum_ev (xs : List Int) (hl : xs.length ≤ 281474976710656) : Ev (fun k => crc_Sum.f k xs) ((cmore 0#32 xs).toNat : Int) := by
  refine Ev.congr (fun k => by rw [crc_Sum.f]) (Ev.bind (g := fun k => crc_More.f k 0 xs) (more_ev 0#32 xs hl) (Ev.now _))

theorem awake_true : Ev (fun k => ferrulelaw1_awake.f k) true := Ev.of (fun k => ferrulelaw1_awake.mono k) (k := 200) (by decide +kernel)

def x3 (x y z : Int) : Int := Go.bits .xor .u8 (Go.bits .xor .u8 x y) z
theorem x3_spec (x y z : Int) (hx0 : 0 ≤ x) (hx1 : x ≤ 255) (hy0 : 0 ≤ y) (hy1 : y ≤ 255) (hz0 : 0 ≤ z) (hz1 : z ≤ 255) :
    BitVec.ofInt 32 (x3 x y z) = BitVec.ofInt 32 x ^^^ BitVec.ofInt 32 y ^^^ BitVec.ofInt 32 z := by
  obtain ⟨h1, h2⟩ := xor8 x y ⟨hx0, hx1⟩ ⟨hy0, hy1⟩
  obtain ⟨_, h4⟩ := xor8 _ z h1 ⟨hz0, hz1⟩
  unfold x3
  rw [h4, h2]
/-- the list that the law makes, behind i rounds -/
def mixed (a b c : List Int) (i : Nat) : List Int := (List.range a.length).map fun j => if j < i then x3 (a.getD j 0) (b.getD j 0) (c.getD j 0) else 0
theorem mixed_set (a b c : List Int) (i : Nat) : (mixed a b c i).set i (x3 (a.getD i 0) (b.getD i 0) (c.getD i 0)) = mixed a b c (i + 1) := by
  apply List.ext_getElem
  · simp [mixed]
  · intro j h1 h2
    simp [mixed] at h1 h2
    rw [List.getElem_set]
    by_cases e : i = j
    · subst e; simp [mixed]
    · rw [if_neg e]
      simp [mixed]
      by_cases hj : j < i
      · rw [if_pos hj, if_pos (by omega)]
      · rw [if_neg hj, if_neg (by omega)]

theorem loop (a b c : List Int) (hab : a.length = b.length) (hac : a.length = c.length) (hl : a.length ≤ 281474976710656)
    (ha : ∀ x ∈ a, 0 ≤ x ∧ x ≤ 255) (hb : ∀ x ∈ b, 0 ≤ x ∧ x ≤ 255) (hc : ∀ x ∈ c, 0 ≤ x ∧ x ≤ 255) (d : Nat) : ∀ (i : Nat), i + d = a.length →
    Ev (fun k => ferrulelaw1_CrcLinear.l0 k a b c (mixed a b c i) (i : Int)) true := by
  have hlen : ∀ i, (mixed a b c i).length = a.length := fun i => by simp [mixed]
  induction d with
  | zero =>
    intro i hd
    refine Ev.step (fun k => by simp only [ferrulelaw1_CrcLinear.l0]; rw [if_neg (by omega)]) ?_
    refine Ev.bind (sum_ev _ (by rw [hlen]; omega)) ?_
    refine Ev.bind (sum_ev a (by omega)) ?_
    refine Ev.bind (sum_ev b (by omega)) ?_
    refine Ev.bind (sum_ev c (by omega)) ?_
    refine Ev.congr (fun k => ?_) (Ev.now true)
    have e : mixed a b c i = (List.range a.length).map fun j => x3 (a.getD j 0) (b.getD j 0) (c.getD j 0) := by
      unfold mixed
      apply List.map_congr_left
      intro j hj
      have := List.mem_range.1 hj
      rw [if_pos (by omega)]
    have h3 := crun_three x3 x3_spec a b c (~~~ 0#32) (~~~ 0#32) (~~~ 0#32) hab hac ha hb hc
    have e3 : (~~~ 0#32) ^^^ (~~~ 0#32) ^^^ (~~~ 0#32) = (~~~ 0#32 : BitVec 32) := by decide
    rw [e3] at h3
    have hx : cmore 0#32 (mixed a b c i) = cmore 0#32 a ^^^ cmore 0#32 b ^^^ cmore 0#32 c := by
      unfold cmore
      rw [e, h3]
      have n : ∀ x : BitVec 32, ~~~ x = BitVec.allOnes 32 ^^^ x := fun x => by rw [BitVec.allOnes_xor]
      rw [n, n (crun _ a), n (crun _ b), n (crun _ c)]
      have k2 : ∀ o x y z : BitVec 32, (o ^^^ x) ^^^ (o ^^^ y) ^^^ (o ^^^ z) = (o ^^^ o) ^^^ (o ^^^ (x ^^^ y ^^^ z)) := by intro o x y z; ac_rfl
      rw [k2, BitVec.xor_self, BitVec.zero_xor]
    rw [xor32, xor32, hx]
    simp
  | succ d ih =>
    intro i hd
    have hi : (i : Int) < (a.length : Int) := by omega
    have hw := w64 (Int.natCast_nonneg i) hi (by omega)
    refine Ev.step (fun k => ?_) (ih (i + 1) (by omega))
    simp only [ferrulelaw1_CrcLinear.l0]
    rw [if_pos hi, if_pos (by omega), if_pos (by omega), if_pos (by omega), if_pos (by rw [hlen]; omega), hw]
    have e := mixed_set a b c i
    rw [← e]
    simp only [rd, Int.toNat_natCast, x3]
    rfl

theorem CrcLinear : ferrulelaw1_CrcLinear.Pure := by
  intro a b c _ hl1 hwa _ _ hwb _ _ hwc
  have wf : ∀ x : Int, (Lit.int .u8 x).wf = true → 0 ≤ x ∧ x ≤ 255 := fun x h => by simpa [Lit.wf, IntKind.min, IntKind.max, IntKind.signed, IntKind.bits] using h
  refine Ev.rounds (g := fun k => ferrulelaw1_CrcLinear.f k a b c) (r := true) ?_
  refine Ev.congr (fun k => by rw [ferrulelaw1_CrcLinear.f]) ?_
  refine Ev.bind awake_true ?_
  refine Ev.congr (fun k => by rw [if_pos rfl]) ?_
  have hout : Ev (fun k => ferrulelaw1_CrcLinear.j0 k a b c true) true := Ev.step (fun k => by simp only [ferrulelaw1_CrcLinear.j0, if_true]) (Ev.now true)
  by_cases hab : (a.length : Int) = (b.length : Int)
  · refine Ev.congr (fun k => by rw [if_pos hab]) ?_
    by_cases hac : (a.length : Int) = (c.length : Int)
    · have hn : ((a.length : Int) != (c.length : Int)) = false := by simp [hac]
      rw [hn]
      refine Ev.step (f := fun k => ferrulelaw1_CrcLinear.l0 k a b c (mixed a b c 0) ((0 : Nat) : Int)) (fun k => ?_) (loop a b c (by omega) (by omega) (by omega) (fun x h => wf x (hwa x h)) (fun x h => wf x (hwb x h)) (fun x h => wf x (hwc x h)) a.length 0 (by omega))
      simp only [ferrulelaw1_CrcLinear.j0]
      have e : List.replicate ((a.length : Int) : Int).toNat 0 = mixed a b c 0 := by
        apply List.ext_getElem
        · simp [mixed]
        · intro j h1 h2; simp [mixed]
      rw [if_neg (by decide), if_pos (by omega), if_pos (by omega), e]
      rfl
    · have hn : ((a.length : Int) != (c.length : Int)) = true := by simpa using hac
      rw [hn]
      exact hout
  · refine Ev.congr (fun k => by rw [if_neg hab]) hout

end Go.Proofs.Ytfbbphpgiblhlaa.Pure
