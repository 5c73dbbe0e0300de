/- Bytes in which up to four bytes, one behind the other, are changed have another sum, and the same one if nothing is changed. Conditions: none beyond the row's own. -/
import Derived.Test.YtfbbphpgiblhlaaPCrcTellsx1
import Derived.Test.YtfbbphpgiblhlaaCrcMath
namespace Go.Proofs.Ytfbbphpgiblhlaa.Pure
open Go.RowKit Go.Proofs.Ytfbbphpgiblhlaa.PCrcTells Go.Proofs.YtfbbphpgiblhlaaW.PrintWords Go.Proofs.YtfbbphpgiblhlaaW.PrintLast Go.Proofs.YtfbbphpgiblhlaaW.PrintMore Go.Proofs.Ytfbbphpgiblhlaa.Crc

theorem w64 {i n : Int} (h0 : 0 ≤ i) (h : i < n) (hn : n ≤ 281474976710656) : wrap64 (i + 1) = i + 1 := by unfold wrap64; omega

theorem inner (xs : List Int) (n i : Int) (r : Int) (d : Nat) : ∀ (c : BitVec 32) (j : Int), 0 ≤ j → 8 - j = d → wrap64 (i + 1) = i + 1 →
    Ev (fun k => crc_More.l0 k ((stps d c).toNat : Int) xs n (i + 1)) r → Ev (fun k => crc_More.l1 k (c.toNat : Int) xs n i j) r := by
  induction d with
  | zero =>
    intro c j h0 hd hw h
    refine Ev.step (fun k => ?_) h
    simp only [crc_More.l1]
    rw [if_neg (by omega), hw]; rfl
  | succ d ih =>
    intro c j h0 hd hw h
    have hj : wrap64 (j + 1) = j + 1 := by unfold wrap64; omega
    refine Ev.step (fun k => ?_) (ih (stp c) (j + 1) (by omega) (by omega) hw h)
    simp only [crc_More.l1]
    rw [if_pos (by omega), hj, half32, ← poly32, xor32]
    unfold stp
    by_cases hb : c.getLsbD 0 = true
    · rw [if_pos ((low32 c).2 hb), if_pos hb]
    · rw [if_neg (fun h => hb ((low32 c).1 h)), if_neg hb]

theorem outer (xs : List Int) (hl : xs.length ≤ 281474976710656) (d : Nat) : ∀ (c : BitVec 32) (i : Int), 0 ≤ i → (xs.length : Int) - i = d →
    Ev (fun k => crc_More.l0 k (c.toNat : Int) xs (xs.length : Int) i) ((~~~ (crun c (xs.drop i.toNat))).toNat : Int) := by
  induction d with
  | zero =>
    intro c i h0 hd
    refine Ev.step (fun k => ?_) (Ev.now _)
    simp only [crc_More.l0]
    rw [if_neg (by omega), all32, List.drop_of_length_le (by omega)]; rfl
  | succ d ih =>
    intro c i h0 hd
    have hw := w64 h0 (show i < (xs.length : Int) by omega) (by omega)
    have hi : i.toNat < xs.length := by omega
    have e : xs.drop i.toNat = rd xs i :: xs.drop (i + 1).toNat := by
      rw [List.drop_eq_getElem_cons hi, show (i + 1).toNat = i.toNat + 1 by omega]
      congr 1
      simp [rd, hi]
    refine Ev.step (f := fun k => crc_More.l1 k ((c ^^^ BitVec.ofInt 32 (rd xs i)).toNat : Int) xs (xs.length : Int) i 0) (fun k => ?_) ?_
    · simp only [crc_More.l0]
      rw [if_pos (by omega), if_pos h0, if_pos (by omega), byte32, xor32]
    · refine inner xs _ i _ 8 _ 0 (by omega) (by omega) hw ?_
      rw [e]
      exact ih (bstep c (rd xs i)) (i + 1) (by omega) (by omega)

theorem more_ev (s : BitVec 32) (xs : List Int) (hl : xs.length ≤ 281474976710656) : Ev (fun k => crc_More.f k (s.toNat : Int) xs) ((cmore s xs).toNat : Int) := by
  have h := outer xs hl xs.length (~~~ s) 0 (by omega) (by omega)
  refine Ev.congr (fun k => ?_) h
  simp only [crc_More.f]
  rw [all32]
theorem sum_ev (xs : List Int) (hl : xs.length ≤ 281474976710656) : Ev (fun k => crc_Sum.f k xs) ((cmore 0#32 xs).toNat : Int) := by
  refine Ev.congr (fun k => by rw [crc_Sum.f]) (Ev.bind (g := fun k => crc_More.f k 0 xs) (more_ev 0#32 xs hl) (Ev.now _))

theorem awake_true : Ev (fun k => ferrulelaw1_awake.f k) true := Ev.of (fun k => ferrulelaw1_awake.mono k) (k := 200) (by decide +kernel)


theorem wf8 (x : Int) (h : (Lit.int .u8 x).wf = true) : 0 ≤ x ∧ x ≤ 255 := by simpa [Lit.wf, IntKind.min, IntKind.max, IntKind.signed, IntKind.bits] using h
theorem wf32 (x : Int) (h : (Lit.int .u32 x).wf = true) : 0 ≤ x ∧ x < 4294967296 := by
  have : 0 ≤ x ∧ x ≤ 4294967295 := by simpa [Lit.wf, IntKind.min, IntKind.max, IntKind.signed, IntKind.bits] using h
  omega
theorem str_size (xs : List Int) : (strOfNums xs).size = xs.length := by
  show (strOfNums xs).data.size = _
  simp [strOfNums]
theorem bytes_of (xs : List Int) (h : ∀ x ∈ xs, 0 ≤ x ∧ x ≤ 255) : Kd.bytesNums (strOfNums xs) = xs := by
  unfold Kd.bytesNums strOfNums
  simp only [List.map_map]
  conv => rhs; rw [← List.map_id xs]
  apply List.map_congr_left
  intro x hx
  obtain ⟨h0, h1⟩ := h x hx
  simp only [Function.comp, id, UInt8.toNat_ofNat']
  omega

theorem bstep_diff (a b : BitVec 32) (x y z : Int) (h : BitVec.ofInt 32 x = BitVec.ofInt 32 y ^^^ BitVec.ofInt 32 z) : bstep a x ^^^ bstep b y = bstep (a ^^^ b) z := by
  unfold bstep
  rw [← stps_xor, h]
  congr 1
  have e : (a ^^^ (BitVec.ofInt 32 y ^^^ BitVec.ofInt 32 z)) ^^^ (b ^^^ BitVec.ofInt 32 y) = ((a ^^^ b) ^^^ BitVec.ofInt 32 z) ^^^ (BitVec.ofInt 32 y ^^^ BitVec.ofInt 32 y) := by ac_rfl
  rw [e, BitVec.xor_self, BitVec.xor_zero]
theorem xor_self_eq {a b : BitVec 32} : a ^^^ b = 0#32 ↔ a = b := ⟨xor_eq_zero, fun h => by rw [h, BitVec.xor_self]⟩
theorem four_diff (c : BitVec 32) (d : BitVec 32) (b0 b1 b2 b3 x0 x1 x2 x3 : Int)
    (h0 : BitVec.ofInt 32 x0 = BitVec.ofInt 32 b0 ^^^ BitVec.ofInt 32 (d &&& 255#32).toNat) (h1 : BitVec.ofInt 32 x1 = BitVec.ofInt 32 b1 ^^^ BitVec.ofInt 32 ((d >>> 8) &&& 255#32).toNat)
    (h2 : BitVec.ofInt 32 x2 = BitVec.ofInt 32 b2 ^^^ BitVec.ofInt 32 ((d >>> 16) &&& 255#32).toNat) (h3 : BitVec.ofInt 32 x3 = BitVec.ofInt 32 b3 ^^^ BitVec.ofInt 32 ((d >>> 24) &&& 255#32).toNat) :
    crun c [x0, x1, x2, x3] = crun c [b0, b1, b2, b3] ↔ d = 0#32 := by
  rw [← xor_self_eq]
  show bstep (bstep (bstep (bstep c x0) x1) x2) x3 ^^^ bstep (bstep (bstep (bstep c b0) b1) b2) b3 = 0#32 ↔ _
  rw [bstep_diff _ _ _ _ _ h3, bstep_diff _ _ _ _ _ h2, bstep_diff _ _ _ _ _ h1, bstep_diff _ _ _ _ _ h0, BitVec.xor_self, four, BitVec.zero_xor]
  exact ⟨stps_ne 32 d, fun h => by rw [h, stps_zero]⟩
theorem tell_iff (A Z : List Int) (d : BitVec 32) (b0 b1 b2 b3 x0 x1 x2 x3 : Int)
    (h0 : BitVec.ofInt 32 x0 = BitVec.ofInt 32 b0 ^^^ BitVec.ofInt 32 (d &&& 255#32).toNat) (h1 : BitVec.ofInt 32 x1 = BitVec.ofInt 32 b1 ^^^ BitVec.ofInt 32 ((d >>> 8) &&& 255#32).toNat)
    (h2 : BitVec.ofInt 32 x2 = BitVec.ofInt 32 b2 ^^^ BitVec.ofInt 32 ((d >>> 16) &&& 255#32).toNat) (h3 : BitVec.ofInt 32 x3 = BitVec.ofInt 32 b3 ^^^ BitVec.ofInt 32 ((d >>> 24) &&& 255#32).toNat) :
    cmore 0#32 (A ++ ([x0, x1, x2, x3] ++ Z)) = cmore 0#32 (A ++ ([b0, b1, b2, b3] ++ Z)) ↔ d = 0#32 := by
  have e : ∀ L, cmore 0#32 (A ++ (L ++ Z)) = ~~~ (crun (crun (crun (~~~ 0#32) A) L) Z) := fun L => by unfold cmore; rw [crun_append, crun_append]
  rw [e, e, ← four_diff (crun (~~~ 0#32) A) d b0 b1 b2 b3 x0 x1 x2 x3 h0 h1 h2 h3]
  exact ⟨fun h => crun_inj Z (not_inj h), fun h => by rw [h]⟩

theorem tstep (xs A L : List Int) (a1 a2 : Int) (j : Nat) (hj : j < 4) (hA : (A.length : Int) = a1) (hL : j < L.length) (hlen : A.length + L.length ≤ 281474976710656) {r : Bool}
    (h : Ev (fun k => ferrulelaw1_CrcTells.l0 k xs a1 a2 (A ++ L.set j (Go.bits .xor .u8 (L.getD j 0) (a2 / 2 ^ (8 * j) % 256))) ((j + 1 : Nat) : Int)) r) :
    Ev (fun k => ferrulelaw1_CrcTells.l0 k xs a1 a2 (A ++ L) (j : Int)) r := by
  refine Ev.step (fun k => ?_) h
  subst hA
  have w1 : wrap64 ((A.length : Int) + j) = (A.length : Int) + j := by unfold wrap64; omega
  have w2 : wrap64 (8 * (j : Int)) = 8 * j := by unfold wrap64; omega
  have w3 : IntKind.u64.wrap (8 * (j : Int)) = 8 * j := by simp [IntKind.wrap, IntKind.bits, IntKind.signed]; omega
  have w4 : wrap64 ((j : Int) + 1) = ((j + 1 : Nat) : Int) := by unfold wrap64; omega
  have w5 : shr .u32 a2 (8 * (j : Int)) = a2 / 2 ^ (8 * j) := by
    unfold shr
    have : (8 * (j : Int)).toNat = 8 * j := by omega
    rw [this, Nat.min_eq_left (by show 8 * j ≤ 32; omega)]
  have w6 : ((A.length : Int) + j).toNat = A.length + j := by omega
  simp only [ferrulelaw1_CrcTells.l0, w1, w2, w3, w4, w5]
  rw [if_pos (by omega), if_pos (by omega), if_pos (by rw [List.length_append]; omega), if_pos (by omega)]
  have e1 : rd (A ++ L) ((A.length : Int) + j) = L.getD j 0 := by
    unfold rd
    rw [w6, List.getD_eq_getElem?_getD, List.getElem?_append_right (by omega), Nat.add_sub_cancel_left, List.getD_eq_getElem?_getD]
  have e2 : ∀ v, (A ++ L).set ((A.length : Int) + j).toNat v = A ++ L.set j v := fun v => by
    rw [w6, List.set_append_right _ _ (by omega), Nat.add_sub_cancel_left]
  rw [e1, e2]

theorem CrcTells : ferrulelaw1_CrcTells.Pure := by
  intro l a1 a2 _ hl hwl hw1 hw2
  have hb := fun x hx => wf8 x (hwl x hx)
  obtain ⟨h20, h21⟩ := wf32 a2 hw2
  refine Ev.rounds (g := fun k => ferrulelaw1_CrcTells.f k l a1 a2) (r := true) ?_
  refine Ev.congr (fun k => by rw [ferrulelaw1_CrcTells.f]) ?_
  refine Ev.bind awake_true ?_
  refine Ev.congr (fun k => by rw [if_pos rfl]) ?_
  have hout : Ev (fun k => ferrulelaw1_CrcTells.j0 k l a1 a2 true) true := Ev.step (fun k => by simp only [ferrulelaw1_CrcTells.j0, if_true]) (Ev.now true)
  have hw : wrap64 ((l.length : Int) - 4) = (l.length : Int) - 4 := by unfold wrap64; omega
  by_cases h0 : a1 < 0
  · exact Ev.congr (fun k => by rw [if_pos h0]) hout
  refine Ev.congr (fun k => by rw [if_neg h0, hw]) ?_
  by_cases h1 : a1 > (l.length : Int) - 4
  · rw [decide_eq_true h1]; exact hout
  rw [decide_eq_false h1]
  refine Ev.step (f := fun k => ferrulelaw1_CrcTells.l0 k l a1 a2 l 0) (fun k => ?_) ?_
  · simp only [ferrulelaw1_CrcTells.j0]
    rw [if_neg (by decide), if_pos (by rw [str_size]; omega), bytes_of l hb]
  -- the list in three parts
  obtain ⟨A, L, hAL, hA, hL4⟩ : ∃ A L : List Int, l = A ++ L ∧ (A.length : Int) = a1 ∧ 4 ≤ L.length := ⟨l.take a1.toNat, l.drop a1.toNat, (List.take_append_drop _ _).symm, by rw [List.length_take]; omega, by rw [List.length_drop]; omega⟩
  match L, hL4, hAL with
  | b0 :: b1 :: b2 :: b3 :: Z, _, hAL =>
  have hlen : A.length + (Z.length + 4) ≤ 281474976710656 := by
    have := congrArg List.length hAL
    simp at this
    omega
  have hB : ∀ x ∈ [b0, b1, b2, b3], 0 ≤ x ∧ x ≤ 255 := fun x hx => hb x (by rw [hAL]; simp at hx ⊢; rcases hx with rfl | rfl | rfl | rfl <;> simp)
  let c : Nat → Int := fun j => a2 / 2 ^ (8 * j) % 256
  have hc : ∀ j, 0 ≤ c j ∧ c j ≤ 255 := fun j => by show 0 ≤ a2 / 2 ^ (8 * j) % 256 ∧ a2 / 2 ^ (8 * j) % 256 ≤ 255; omega
  obtain ⟨-, e0⟩ := xor8 b0 (c 0) (hB b0 (by simp)) (hc 0)
  obtain ⟨-, e1⟩ := xor8 b1 (c 1) (hB b1 (by simp)) (hc 1)
  obtain ⟨-, e2⟩ := xor8 b2 (c 2) (hB b2 (by simp)) (hc 2)
  obtain ⟨-, e3⟩ := xor8 b3 (c 3) (hB b3 (by simp)) (hc 3)
  refine Ev.congr (g := fun k => ferrulelaw1_CrcTells.l0 k l a1 a2 l 0) (f := fun k => ferrulelaw1_CrcTells.l0 k l a1 a2 (A ++ (b0 :: b1 :: b2 :: b3 :: Z)) ((0 : Nat) : Int)) (fun k => by rw [← hAL]; rfl) ?_
  refine tstep l A _ a1 a2 0 (by omega) hA (by simp) (by simp; omega) ?_
  refine tstep l A _ a1 a2 1 (by omega) hA (by simp) (by simp; omega) ?_
  refine tstep l A _ a1 a2 2 (by omega) hA (by simp) (by simp; omega) ?_
  refine tstep l A _ a1 a2 3 (by omega) hA (by simp) (by simp; omega) ?_
  refine Ev.congr (f := fun k => ferrulelaw1_CrcTells.l0 k l a1 a2 (A ++ ([Go.bits .xor .u8 b0 (c 0), Go.bits .xor .u8 b1 (c 1), Go.bits .xor .u8 b2 (c 2), Go.bits .xor .u8 b3 (c 3)] ++ Z)) 4) (fun k => rfl) ?_
  refine Ev.step (fun k => by simp only [ferrulelaw1_CrcTells.l0]; rw [if_neg (by decide)]) ?_
  refine Ev.bind (sum_ev _ (by simp; omega)) ?_
  refine Ev.bind (sum_ev l (by omega)) ?_
  refine Ev.congr (fun k => ?_) (Ev.now true)
  congr 1
  -- the change as a bit vector
  have hd : ∀ j, j < 4 → c j = (((BitVec.ofNat 32 a2.toNat >>> (8 * j)) &&& 255#32).toNat : Int) := by
    intro j hj
    show a2 / 2 ^ (8 * j) % 256 = _
    obtain ⟨n, rfl⟩ := Int.eq_ofNat_of_zero_le h20
    have h255 : ∀ m : Nat, m &&& 255 = m % 256 := fun m => Nat.and_two_pow_sub_one_eq_mod m 8
    have e255 : (255#32 : BitVec 32).toNat = 255 := by decide
    have en : (BitVec.ofNat 32 (Int.toNat (n : Int))).toNat = n := by rw [BitVec.toNat_ofNat, Int.toNat_natCast]; exact Nat.mod_eq_of_lt (by omega)
    rw [BitVec.toNat_and, BitVec.toNat_ushiftRight, e255, en, Nat.shiftRight_eq_div_pow, h255]
    rw [Int.natCast_emod, Int.natCast_ediv, Int.natCast_pow]
    rfl
  have key := tell_iff A Z (BitVec.ofNat 32 a2.toNat) b0 b1 b2 b3 _ _ _ _ (by have := hd 0 (by omega); simp only [Nat.mul_zero, BitVec.ushiftRight_zero] at this; rw [← this]; exact e0) (by rw [← hd 1 (by omega)]; exact e1) (by rw [← hd 2 (by omega)]; exact e2) (by rw [← hd 3 (by omega)]; exact e3)
  rw [show A ++ ([b0, b1, b2, b3] ++ Z) = l from hAL.symm] at key
  have hz : BitVec.ofNat 32 a2.toNat = 0#32 ↔ a2 = 0 := by
    constructor
    · intro h
      have := congrArg BitVec.toNat h
      simp at this
      omega
    · intro h
      rw [h]; rfl
  rw [hz] at key
  rw [beq_iff_eq, Bool.eq_iff_iff, beq_iff_eq, beq_iff_eq, ← key]
  constructor
  · intro h
    apply BitVec.eq_of_toNat_eq
    omega
  · intro h
    rw [h]

end Go.Proofs.Ytfbbphpgiblhlaa.Pure
