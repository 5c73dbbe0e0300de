/- For any bytes and any sum: Sum and More of them are the sum as it is told bit by bit, and the bytes stay as they were. Conditions: none beyond the row's own. -/
import Derived.Test.YtfbbphpgiblhlaaPCrcSumsx1
import Derived.Test.YtfbbphpgiblhlaaCrcMath
namespace Go.Proofs.Ytfbbphpgiblhlaa.Pure
open Go.RowKit Go.Proofs.Ytfbbphpgiblhlaa.PCrcSums Go.Proofs.YtfbbphpgiblhlaaW.PrintWords Go.Proofs.YtfbbphpgiblhlaaW.PrintLast Go.Proofs.YtfbbphpgiblhlaaW.PrintMore Go.Proofs.Ytfbbphpgiblhlaa.Crc

theorem w64 {i n : Int} (h0 : 0 ≤ i) (h : i < n) (hn : n ≤ 281474976710656) : wrap64 (i + 1) = i + 1 := by unfold wrap64; omega

theorem inner (xs : List Int) (n i : Int) (r : Int) (d : Nat) : ∀ (c : BitVec 32) (j : Int), 0 ≤ j → 8 - j = d → wrap64 (i + 1) = i + 1 →
    Ev (fun k => crc_More.l0 k ((stps d c).toNat : Int) xs n (i + 1)) r → Ev (fun k => crc_More.l1 k (c.toNat : Int) xs n i j) r := by
  induction d with
  | zero =>
    intro c j h0 hd hw h
    refine Ev.step (fun k => ?_) h
    simp only [crc_More.l1]
    rw [if_neg (by omega), hw]; rfl
  | succ d ih =>
    intro c j h0 hd hw h
    have hj : wrap64 (j + 1) = j + 1 := by unfold wrap64; omega
    refine Ev.step (fun k => ?_) (ih (stp c) (j + 1) (by omega) (by omega) hw h)
    simp only [crc_More.l1]
    rw [if_pos (by omega), hj, half32, ← poly32, xor32]
    unfold stp
    by_cases hb : c.getLsbD 0 = true
    · rw [if_pos ((low32 c).2 hb), if_pos hb]
    · rw [if_neg (fun h => hb ((low32 c).1 h)), if_neg hb]

theorem outer (xs : List Int) (hl : xs.length ≤ 281474976710656) (d : Nat) : ∀ (c : BitVec 32) (i : Int), 0 ≤ i → (xs.length : Int) - i = d →
    Ev (fun k => crc_More.l0 k (c.toNat : Int) xs (xs.length : Int) i) ((~~~ (crun c (xs.drop i.toNat))).toNat : Int) := by
  induction d with
  | zero =>
    intro c i h0 hd
    refine Ev.step (fun k => ?_) (Ev.now _)
    simp only [crc_More.l0]
    rw [if_neg (by omega), all32, List.drop_of_length_le (by omega)]; rfl
  | succ d ih =>
    intro c i h0 hd
    have hw := w64 h0 (show i < (xs.length : Int) by omega) (by omega)
    have hi : i.toNat < xs.length := by omega
    have e : xs.drop i.toNat = rd xs i :: xs.drop (i + 1).toNat := by
      rw [List.drop_eq_getElem_cons hi, show (i + 1).toNat = i.toNat + 1 by omega]
      congr 1
      simp [rd, hi]
    refine Ev.step (f := fun k => crc_More.l1 k ((c ^^^ BitVec.ofInt 32 (rd xs i)).toNat : Int) xs (xs.length : Int) i 0) (fun k => ?_) ?_
    · simp only [crc_More.l0]
      rw [if_pos (by omega), if_pos h0, if_pos (by omega), byte32, xor32]
    · refine inner xs _ i _ 8 _ 0 (by omega) (by omega) hw ?_
      rw [e]
      exact ih (bstep c (rd xs i)) (i + 1) (by omega) (by omega)

theorem more_ev (s : BitVec 32) (xs : List Int) (hl : xs.length ≤ 281474976710656) : Ev (fun k => crc_More.f k (s.toNat : Int) xs) ((cmore s xs).toNat : Int) := by
  have h := outer xs hl xs.length (~~~ s) 0 (by omega) (by omega)
  refine Ev.congr (fun k => ?_) h
  simp only [crc_More.f]
  rw [all32]
theorem sum_ev (xs : List Int) (hl : xs.length ≤ 281474976710656) : Ev (fun k => crc_Sum.f k xs) ((cmore 0#32 xs).toNat : Int) := by
  refine Ev.congr (fun k => by rw [crc_Sum.f]) (Ev.bind (g := fun k => crc_More.f k 0 xs) (more_ev 0#32 xs hl) (Ev.now _))

theorem awake_true : Ev (fun k => ferrulelaw1_awake.f k) true := Ev.of (fun k => ferrulelaw1_awake.mono k) (k := 200) (by decide +kernel)


theorem wf8 (x : Int) (h : (Lit.int .u8 x).wf = true) : 0 ≤ x ∧ x ≤ 255 := by simpa [Lit.wf, IntKind.min, IntKind.max, IntKind.signed, IntKind.bits] using h
theorem wf32 (x : Int) (h : (Lit.int .u32 x).wf = true) : 0 ≤ x ∧ x < 4294967296 := by
  have : 0 ≤ x ∧ x ≤ 4294967295 := by simpa [Lit.wf, IntKind.min, IntKind.max, IntKind.signed, IntKind.bits] using h
  omega
theorem str_size (xs : List Int) : (strOfNums xs).size = xs.length := by
  show (strOfNums xs).data.size = _
  simp [strOfNums]
theorem bytes_of (xs : List Int) (h : ∀ x ∈ xs, 0 ≤ x ∧ x ≤ 255) : Kd.bytesNums (strOfNums xs) = xs := by
  unfold Kd.bytesNums strOfNums
  simp only [List.map_map]
  conv => rhs; rw [← List.map_id xs]
  apply List.map_congr_left
  intro x hx
  obtain ⟨h0, h1⟩ := h x hx
  simp only [Function.comp, id, UInt8.toNat_ofNat']
  omega

theorem one_shr (b : BitVec 32) : (b &&& 1#32) >>> 1 = 0#32 := by
  apply BitVec.eq_of_toNat_eq
  have : (b &&& 1#32).toNat = b.toNat % 2 := by
    rw [BitVec.toNat_and]
    show b.toNat &&& 1 = _
    rw [Nat.and_one_is_mod]
  simp only [BitVec.toNat_ushiftRight, this, Nat.shiftRight_eq_div_pow]
  show b.toNat % 2 / 2 = 0
  omega
theorem bit_spec (c b : BitVec 32) : ferruleref1_bit.f (c.toNat : Int) ((b &&& 1#32).toNat : Int) = some ((stp (c ^^^ (b &&& 1#32))).toNat : Int) := by
  unfold ferruleref1_bit.f stp
  rw [xor32, half32, ← poly32, xor32, BitVec.ushiftRight_xor_distrib, one_shr, BitVec.xor_zero]
  by_cases hb : (c ^^^ (b &&& 1#32)).getLsbD 0 = true
  · rw [if_pos ((low32 _).2 hb), if_pos hb]
  · rw [if_neg (fun h => hb ((low32 _).1 h)), if_neg hb]
theorem stp_split (c y : BitVec 32) : stp (c ^^^ y) = stp (c ^^^ (y &&& 1#32)) ^^^ (y >>> 1) := by
  have sp : y = (y &&& 1#32) ^^^ ((y >>> 1) <<< 1) := by
    apply BitVec.eq_of_getLsbD_eq
    intro i hi
    by_cases h8 : i < 1
    · have h0 : i = 0 := by omega
      subst h0
      simp
    · have : (1#32).getLsbD i = false := by
        have : ∀ i, i < 32 → ¬ i < 1 → (1#32).getLsbD i = false := by decide
        exact this i hi h8
      have h3 : 1 + (i - 1) = i := by omega
      have h4 : (1#32)[i] = false := this
      simp [h8, hi, h3, h4]
  have e : c ^^^ y = (c ^^^ (y &&& 1#32)) ^^^ ((y >>> 1) <<< 1) := by rw [BitVec.xor_assoc, ← sp]
  rw [e, stp_xor, stp_even]
  have := y.isLt
  simp [Nat.shiftRight_eq_div_pow]
  omega
theorem ref_inner (xs : List Int) (i : Int) (hi0 : 0 ≤ i) (hi1 : i < (xs.length : Int)) (hw : wrap64 (i + 1) = i + 1) (X : BitVec 32) (hX : rd xs i = (X.toNat : Int)) (r : Int) (s : BitVec 32) (d : Nat) : ∀ (c : BitVec 32) (j : Nat), 8 - j = d → j ≤ 8 →
    c ^^^ (X >>> j) = stps j s →
    Ev (fun k => ferruleref1_More.l0 k xs ((stps 8 s ^^^ (X >>> 8)).toNat : Int) (i + 1)) r → Ev (fun k => ferruleref1_More.l1 k xs (c.toNat : Int) i (j : Int)) r := by
  induction d with
  | zero =>
    intro c j hd h8 hc h
    obtain rfl : j = 8 := by omega
    refine Ev.step (fun k => ?_) h
    simp only [ferruleref1_More.l1]
    rw [if_neg (by decide), hw]
    have : c = stps 8 s ^^^ (X >>> 8) := by rw [← hc, BitVec.xor_assoc, BitVec.xor_self, BitVec.xor_zero]
    rw [this]
  | succ d ih =>
    intro c j hd h8 hc h
    have hj : wrap64 ((j : Int) + 1) = ((j + 1 : Nat) : Int) := by unfold wrap64; omega
    have hu : IntKind.u64.wrap (j : Int) = (j : Int) := by simp [IntKind.wrap, IntKind.bits, IntKind.signed]; omega
    have hs : shr .u8 (rd xs i) (j : Int) % 4294967296 = ((X >>> j).toNat : Int) := by
      unfold shr
      rw [hX, Int.toNat_natCast, Nat.min_eq_left (by show j ≤ 8; omega), BitVec.toNat_ushiftRight, Nat.shiftRight_eq_div_pow]
      have hx := X.isLt
      have h1 : ((X.toNat : Int) / 2 ^ j) = ((X.toNat / 2 ^ j : Nat) : Int) := by rw [Int.natCast_ediv, Int.natCast_pow]; rfl
      have h2 : X.toNat / 2 ^ j ≤ X.toNat := Nat.div_le_self _ _
      rw [h1]
      generalize X.toNat / 2 ^ j = q at h2 ⊢
      omega
    have hone : (1 : Int) = ((1#32 : BitVec 32).toNat : Int) := by decide
    refine Ev.step (f := fun k => ferruleref1_More.l1 k xs ((stp (c ^^^ ((X >>> j) &&& 1#32))).toNat : Int) i ((j + 1 : Nat) : Int)) (fun k => ?_) (ih (stp (c ^^^ ((X >>> j) &&& 1#32))) (j + 1) (by omega) (by omega) ?_ h)
    · simp only [ferruleref1_More.l1, hu, hs, hj]
      rw [if_pos (by omega), if_pos hi0, if_pos hi1, if_pos (by omega)]
      rw [show Go.bits .and .u32 ((X >>> j).toNat : Int) 1 = (((X >>> j) &&& 1#32).toNat : Int) by rw [hone]; exact and32 _ _, bit_spec]
      rfl
    · have e : stps (j + 1) s = stp (stps j s) := stps_succ j s
      rw [e, ← hc, stp_split c (X >>> j), ← BitVec.shiftRight_add]
theorem ref_outer (xs : List Int) (hl : xs.length ≤ 281474976710656) (hb : ∀ x ∈ xs, 0 ≤ x ∧ x ≤ 255) (d : Nat) : ∀ (c : BitVec 32) (i : Int), 0 ≤ i → (xs.length : Int) - i = d →
    Ev (fun k => ferruleref1_More.l0 k xs (c.toNat : Int) i) ((~~~ (crun c (xs.drop i.toNat))).toNat : Int) := by
  induction d with
  | zero =>
    intro c i h0 hd
    refine Ev.step (fun k => ?_) (Ev.now _)
    simp only [ferruleref1_More.l0]
    have h := all32 c
    have hcomm : Go.bits .xor .u32 (c.toNat : Int) 4294967295 = Go.bits .xor .u32 4294967295 (c.toNat : Int) := by
      have e : (((BitVec.allOnes 32).toNat : Nat) : Int) = 4294967295 := by decide
      rw [← e, xor32, xor32, BitVec.xor_comm]
    rw [if_neg (by omega), hcomm, h, List.drop_of_length_le (by omega)]; rfl
  | succ d ih =>
    intro c i h0 hd
    have hw := w64 h0 (show i < (xs.length : Int) by omega) (by omega)
    have hi : i.toNat < xs.length := by omega
    have hrd : rd xs i = xs[i.toNat] := by simp [rd, hi]
    have e : xs.drop i.toNat = rd xs i :: xs.drop (i + 1).toNat := by
      rw [List.drop_eq_getElem_cons hi, show (i + 1).toNat = i.toNat + 1 by omega, hrd]
    have hx : 0 ≤ rd xs i ∧ rd xs i ≤ 255 := by rw [hrd]; exact hb _ (List.getElem_mem hi)
    have hX : rd xs i = ((BitVec.ofInt 32 (rd xs i)).toNat : Int) := by rw [← byte32]; omega
    refine Ev.step (f := fun k => ferruleref1_More.l1 k xs (c.toNat : Int) i ((0 : Nat) : Int)) (fun k => ?_) ?_
    · simp only [ferruleref1_More.l0]
      rw [if_pos (by omega)]
      rfl
    · refine ref_inner xs i h0 (by omega) hw (BitVec.ofInt 32 (rd xs i)) hX _ (c ^^^ BitVec.ofInt 32 (rd xs i)) 8 c 0 (by omega) (by omega) (by simp [stps]) ?_
      have h8 : BitVec.ofInt 32 (rd xs i) >>> 8 = 0#32 := by
        apply BitVec.eq_of_toNat_eq
        rw [BitVec.toNat_ushiftRight, Nat.shiftRight_eq_div_pow]
        show (BitVec.ofInt 32 (rd xs i)).toNat / 256 = 0
        omega
      rw [h8, BitVec.xor_zero, e]
      exact ih (bstep c (rd xs i)) (i + 1) (by omega) (by omega)
theorem ref_more (s : BitVec 32) (xs : List Int) (hl : xs.length ≤ 281474976710656) (hb : ∀ x ∈ xs, 0 ≤ x ∧ x ≤ 255) : Ev (fun k => ferruleref1_More.f k (s.toNat : Int) xs) ((cmore s xs).toNat : Int) := by
  have h := ref_outer xs hl hb xs.length (~~~ s) 0 (by omega) (by omega)
  refine Ev.congr (fun k => ?_) h
  simp only [ferruleref1_More.f]
  have hcomm : Go.bits .xor .u32 (s.toNat : Int) 4294967295 = Go.bits .xor .u32 4294967295 (s.toNat : Int) := by
    have e : (((BitVec.allOnes 32).toNat : Nat) : Int) = 4294967295 := by decide
    rw [← e, xor32, xor32, BitVec.xor_comm]
  rw [hcomm, all32]
theorem ref_sum (xs : List Int) (hl : xs.length ≤ 281474976710656) (hb : ∀ x ∈ xs, 0 ≤ x ∧ x ≤ 255) : Ev (fun k => ferruleref1_Sum.f k xs) ((cmore 0#32 xs).toNat : Int) := by
  refine Ev.congr (fun k => by rw [ferruleref1_Sum.f]) (Ev.bind (g := fun k => ferruleref1_More.f k 0 xs) (ref_more 0#32 xs hl hb) (Ev.now _))

theorem CrcSums : ferrulelaw1_CrcSums.Pure := by
  intro l a1 _ hl hwl hw1
  have hb := fun x hx => wf8 x (hwl x hx)
  obtain ⟨h10, h11⟩ := wf32 a1 hw1
  obtain ⟨s, rfl⟩ : ∃ s : BitVec 32, a1 = (s.toNat : Int) := ⟨BitVec.ofInt 32 a1, by rw [← byte32]; omega⟩
  refine Ev.rounds (g := fun k => ferrulelaw1_CrcSums.f k l (s.toNat : Int)) (r := true) ?_
  have htake : (l ++ [7]).take ((l.length : Int)).toNat = l := by rw [Int.toNat_natCast]; exact List.take_left
  refine Ev.congr (fun k => by rw [ferrulelaw1_CrcSums.f, if_pos (by rw [str_size]; omega), bytes_of l hb, Option.bind_some, if_pos (by omega), Option.bind_some, htake]) ?_
  refine Ev.bind awake_true ?_
  refine Ev.congr (fun k => by rw [if_pos rfl, if_pos (by omega), if_pos (by rw [List.length_append, List.length_singleton]; omega)]) ?_
  refine Ev.bind (sum_ev l (by omega)) ?_
  refine Ev.bind (ref_sum l (by omega) hb) ?_
  refine Ev.congr (fun k => by rw [if_pos rfl]) ?_
  refine Ev.bind (more_ev s l (by omega)) ?_
  refine Ev.bind (ref_more s l (by omega) hb) ?_
  refine Ev.congr (fun k => ?_) (Ev.now true)
  rw [if_pos rfl, if_pos (by rw [str_size]; omega)]
  congr 1
  rw [beq_iff_eq]
  congr 1
  apply ByteArray.ext
  simp [strOfNums]

end Go.Proofs.Ytfbbphpgiblhlaa.Pure
