/- The sum of bytes as a function of bit vectors: what one stp does, that it is linear and can be undone. No program in sight. -/
import Derived.Laws.Entries
import Derived.RowKit
namespace Go.Proofs.Ytfbbphpgiblhlaa.Crc
open Go.RowKit

def poly : BitVec 32 := 3988292384#32
/-- one bit's stp -/
def stp (c : BitVec 32) : BitVec 32 := if c.getLsbD 0 then (c >>> 1) ^^^ poly else c >>> 1
def stps : Nat → BitVec 32 → BitVec 32
  | 0, c => c
  | n + 1, c => stps n (stp c)
def bstep (c : BitVec 32) (x : Int) : BitVec 32 := stps 8 (c ^^^ BitVec.ofInt 32 x)
def crun (c : BitVec 32) (xs : List Int) : BitVec 32 := xs.foldl bstep c
def cmore (s : BitVec 32) (xs : List Int) : BitVec 32 := ~~~ (crun (~~~ s) xs)

theorem stps_succ (n : Nat) (c : BitVec 32) : stps (n + 1) c = stp (stps n c) := by
  induction n generalizing c with
  | zero => rfl
  | succ n ih => rw [stps, ih]; rfl

theorem stp_zero : stp 0#32 = 0#32 := by decide
theorem stps_zero (n : Nat) : stps n 0#32 = 0#32 := by
  induction n with
  | zero => rfl
  | succ n ih => rw [stps, stp_zero, ih]

theorem stp_xor (a b : BitVec 32) : stp (a ^^^ b) = stp a ^^^ stp b := by
  unfold stp
  have h : (a ^^^ b).getLsbD 0 = Bool.xor (a.getLsbD 0) (b.getLsbD 0) := by simp
  rw [h, BitVec.ushiftRight_xor_distrib]
  have c3 : ∀ x y p : BitVec 32, (x ^^^ p) ^^^ (y ^^^ p) = x ^^^ y := by
    intro x y p
    have e : (x ^^^ p) ^^^ (y ^^^ p) = (x ^^^ y) ^^^ (p ^^^ p) := by ac_rfl
    rw [e, BitVec.xor_self, BitVec.xor_zero]
  cases a.getLsbD 0 <;> cases b.getLsbD 0
  · rfl
  · show (a >>> 1 ^^^ b >>> 1) ^^^ poly = a >>> 1 ^^^ (b >>> 1 ^^^ poly)
    ac_rfl
  · show (a >>> 1 ^^^ b >>> 1) ^^^ poly = (a >>> 1 ^^^ poly) ^^^ b >>> 1
    ac_rfl
  · show a >>> 1 ^^^ b >>> 1 = (a >>> 1 ^^^ poly) ^^^ (b >>> 1 ^^^ poly)
    rw [c3]
theorem stps_xor (n : Nat) (a b : BitVec 32) : stps n (a ^^^ b) = stps n a ^^^ stps n b := by
  induction n generalizing a b with
  | zero => rfl
  | succ n ih => rw [stps, stp_xor, ih]; rfl

/-- the stp can be undone -/
theorem stp_ne (c : BitVec 32) (h : stp c = 0#32) : c = 0#32 := by
  unfold stp at h
  by_cases hb : c.getLsbD 0 = true
  · rw [if_pos hb] at h
    have h1 : (c >>> 1) = poly := by
      have := congrArg (· ^^^ poly) h
      simpa [BitVec.xor_assoc] using this
    have h2 := congrArg BitVec.toNat h1
    have h3 : c.toNat < 4294967296 := c.isLt
    simp [poly, Nat.shiftRight_eq_div_pow] at h2
    omega
  · rw [if_neg hb] at h
    have h2 := congrArg BitVec.toNat h
    simp [Nat.shiftRight_eq_div_pow] at h2
    have hl : c.toNat % 2 = 0 := by
      have : c.getLsbD 0 = false := by simpa using hb
      rw [BitVec.getLsbD, Nat.testBit_zero] at this
      simpa using this
    apply BitVec.eq_of_toNat_eq
    simp
    omega
theorem xor_eq_zero {a b : BitVec 32} (h : a ^^^ b = 0#32) : a = b := by
  have := congrArg (· ^^^ b) h
  simpa [BitVec.xor_assoc] using this
theorem stps_ne (n : Nat) (c : BitVec 32) (h : stps n c = 0#32) : c = 0#32 := by
  induction n generalizing c with
  | zero => exact h
  | succ n ih => exact stp_ne _ (ih _ h)
theorem stps_inj (n : Nat) {a b : BitVec 32} (h : stps n a = stps n b) : a = b := by
  apply xor_eq_zero
  apply stps_ne n
  rw [stps_xor, h, BitVec.xor_self]
theorem bstep_inj (x : Int) {a b : BitVec 32} (h : bstep a x = bstep b x) : a = b := by
  have := stps_inj 8 h
  have h2 := congrArg (· ^^^ BitVec.ofInt 32 x) this
  simpa [BitVec.xor_assoc] using h2
theorem crun_inj (xs : List Int) {a b : BitVec 32} (h : crun a xs = crun b xs) : a = b := by
  induction xs generalizing a b with
  | nil => exact h
  | cons x xs ih => exact bstep_inj x (ih h)
theorem crun_append (c : BitVec 32) (xs ys : List Int) : crun c (xs ++ ys) = crun (crun c xs) ys := List.foldl_append
theorem not_inj {a b : BitVec 32} (h : ~~~ a = ~~~ b) : a = b := by
  have := congrArg (fun x => ~~~ x) h
  simpa using this
theorem cmore_more (s : BitVec 32) (xs ys : List Int) : cmore (cmore s xs) ys = cmore s (xs ++ ys) := by
  unfold cmore
  rw [crun_append]; simp

/-! ### Three lists of one length -/
theorem bstep_three (a b c : BitVec 32) (x y z : Int) : bstep a x ^^^ bstep b y ^^^ bstep c z = stps 8 ((a ^^^ b ^^^ c) ^^^ (BitVec.ofInt 32 x ^^^ BitVec.ofInt 32 y ^^^ BitVec.ofInt 32 z)) := by
  unfold bstep
  rw [← stps_xor, ← stps_xor]
  congr 1
  ac_rfl
theorem crun_three (f : Int → Int → Int → Int) (hf : ∀ x y z, 0 ≤ x → x ≤ 255 → 0 ≤ y → y ≤ 255 → 0 ≤ z → z ≤ 255 → BitVec.ofInt 32 (f x y z) = BitVec.ofInt 32 x ^^^ BitVec.ofInt 32 y ^^^ BitVec.ofInt 32 z) :
    ∀ (xs ys zs : List Int) (a b c : BitVec 32), xs.length = ys.length → xs.length = zs.length → (∀ x ∈ xs, 0 ≤ x ∧ x ≤ 255) → (∀ x ∈ ys, 0 ≤ x ∧ x ≤ 255) → (∀ x ∈ zs, 0 ≤ x ∧ x ≤ 255) →
    crun (a ^^^ b ^^^ c) ((List.range xs.length).map fun i => f (xs.getD i 0) (ys.getD i 0) (zs.getD i 0)) = crun a xs ^^^ crun b ys ^^^ crun c zs := by
  intro xs
  induction xs with
  | nil =>
    intro ys zs a b c h1 h2 _ _ _
    cases ys with
    | cons _ _ => simp at h1
    | nil =>
      cases zs with
      | cons _ _ => simp at h2
      | nil => rfl
  | cons x xs ih =>
    intro ys zs a b c h1 h2 hx hy hz
    cases ys with
    | nil => simp at h1
    | cons y ys =>
      cases zs with
      | nil => simp at h2
      | cons z zs =>
        simp only [List.length_cons] at *
        have e : (List.range (xs.length + 1)).map (fun i => f ((x :: xs).getD i 0) ((y :: ys).getD i 0) ((z :: zs).getD i 0)) = f x y z :: (List.range xs.length).map fun i => f (xs.getD i 0) (ys.getD i 0) (zs.getD i 0) := by
          rw [List.range_succ_eq_map, List.map_cons, List.map_map]; rfl
        rw [e]
        have hx0 := hx x (by simp); have hy0 := hy y (by simp); have hz0 := hz z (by simp)
        have e2 : bstep (a ^^^ b ^^^ c) (f x y z) = bstep a x ^^^ bstep b y ^^^ bstep c z := by
          rw [bstep_three, bstep, hf x y z hx0.1 hx0.2 hy0.1 hy0.2 hz0.1 hz0.2]
        show crun (bstep (a ^^^ b ^^^ c) (f x y z)) _ = crun (bstep a x) xs ^^^ crun (bstep b y) ys ^^^ crun (bstep c z) zs
        rw [e2]
        exact ih ys zs _ _ _ (by omega) (by omega) (fun q hq => hx q (by simp [hq])) (fun q hq => hy q (by simp [hq])) (fun q hq => hz q (by simp [hq]))

/-! ### Four bytes that change -/
theorem stp_even (x : BitVec 32) (h : x.toNat < 2147483648) : stp (x <<< 1) = x := by
  unfold stp
  have h0 : (x <<< 1).getLsbD 0 = false := by simp
  rw [if_neg (by rw [h0]; decide)]
  apply BitVec.eq_of_toNat_eq
  simp [Nat.shiftRight_eq_div_pow, Nat.shiftLeft_eq]
  omega
theorem stps_shl (n : Nat) : ∀ x : BitVec 32, x.toNat * 2 ^ n < 4294967296 → stps n (x <<< n) = x := by
  induction n with
  | zero => intro x _; simp [stps]
  | succ n ih =>
    intro x h
    rw [Nat.pow_succ, ← Nat.mul_assoc] at h
    have hx : x.toNat * 2 ^ n < 2147483648 := by omega
    have e : x <<< (n + 1) = (x <<< n) <<< 1 := by rw [← BitVec.shiftLeft_add]
    rw [stps, e, stp_even, ih x (by omega)]
    simp [Nat.shiftLeft_eq]
    exact Nat.lt_of_le_of_lt (Nat.mod_le _ _) hx


/-- four bytes, the lowest first, from a sum's register on -/
theorem four (c : BitVec 32) (d : BitVec 32) : bstep (bstep (bstep (bstep c (d &&& 255#32).toNat) ((d >>> 8) &&& 255#32).toNat) ((d >>> 16) &&& 255#32).toNat) ((d >>> 24) &&& 255#32).toNat = stps 32 (c ^^^ d) := by
  have sp : ∀ x : BitVec 32, x = (x &&& 255#32) ^^^ ((x >>> 8) <<< 8) := by
    intro x
    apply BitVec.eq_of_getLsbD_eq
    intro i hi
    by_cases h8 : i < 8
    · have : (255#32).getLsbD i = true := by
        revert i; decide
      have h4 : (255#32)[i] = true := this
      simp [h8, hi, h4]
    · have : (255#32).getLsbD i = false := by
        have : ∀ i, i < 32 → ¬ i < 8 → (255#32).getLsbD i = false := by decide
        exact this i hi h8
      have h3 : 8 + (i - 8) = i := by omega
      have h4 : (255#32)[i] = false := this
      simp [h8, hi, h3, h4]
  have one : ∀ (c x : BitVec 32), bstep c (x &&& 255#32).toNat = stps 8 (c ^^^ x) ^^^ (x >>> 8) := by
    intro c x
    unfold bstep
    have e : BitVec.ofInt 32 ((x &&& 255#32).toNat : Int) = x &&& 255#32 := by
      rw [BitVec.ofInt_natCast]; simp
    have e2 : stps 8 (c ^^^ x) = stps 8 (c ^^^ (x &&& 255#32)) ^^^ stps 8 ((x >>> 8) <<< 8) := by
      rw [← stps_xor]
      congr 1
      rw [BitVec.xor_assoc, ← sp]
    have e3 : stps 8 ((x >>> 8) <<< 8) = x >>> 8 := by
      apply stps_shl
      have := x.isLt
      simp [Nat.shiftRight_eq_div_pow]
      omega
    rw [e, e2, e3, BitVec.xor_assoc, BitVec.xor_self, BitVec.xor_zero]
  have add : ∀ (m n : Nat) (x : BitVec 32), stps m (stps n x) = stps (n + m) x := by
    intro m n
    induction n with
    | zero => intro x; simp [stps]
    | succ n ih => intro x; rw [stps, ih, show n + 1 + m = (n + m) + 1 by omega, stps]
  have s16 : (d >>> 8) >>> 8 = d >>> 16 := by rw [← BitVec.shiftRight_add]
  have s24 : (d >>> 16) >>> 8 = d >>> 24 := by rw [← BitVec.shiftRight_add]
  have s32 : (d >>> 24) >>> 8 = 0#32 := by
    rw [← BitVec.shiftRight_add]
    apply BitVec.eq_of_toNat_eq
    have := d.isLt
    simp [Nat.shiftRight_eq_div_pow]
    omega
  rw [one _ (d >>> 24), one _ (d >>> 16), one _ (d >>> 8), one _ d, s16, s24, s32]
  have k : ∀ a b : BitVec 32, (a ^^^ b) ^^^ b = a := by intro a b; rw [BitVec.xor_assoc, BitVec.xor_self, BitVec.xor_zero]
  rw [k, k, k, add, add, add, BitVec.xor_zero]

/-! ### The walk's own words for these -/
theorem wrap_nat {n : Nat} (h : n < 4294967296) : IntKind.u32.wrap (n : Int) = n := by
  have e : IntKind.u32.wrap (n : Int) = (n : Int) % 4294967296 := by simp [IntKind.wrap, IntKind.bits, IntKind.signed]
  rw [e]; omega
theorem xor32 (a b : BitVec 32) : Go.bits .xor .u32 (a.toNat : Int) (b.toNat : Int) = ((a ^^^ b).toNat : Int) := by
  unfold Go.bits
  simp only [IntKind.bits, BitVec.ofInt_natCast, BitVec.ofNat_toNat, BitVec.setWidth_eq]
  exact wrap_nat (a ^^^ b).isLt
theorem and32 (a b : BitVec 32) : Go.bits .and .u32 (a.toNat : Int) (b.toNat : Int) = ((a &&& b).toNat : Int) := by
  unfold Go.bits
  simp only [IntKind.bits, BitVec.ofInt_natCast, BitVec.ofNat_toNat, BitVec.setWidth_eq]
  exact wrap_nat (a &&& b).isLt
theorem half32 (a : BitVec 32) : ((a.toNat : Int) / (2 : Int) : Int) = ((a >>> 1).toNat : Int) := by
  simp [Nat.shiftRight_eq_div_pow]
theorem low32 (a : BitVec 32) : (Go.bits .and .u32 (a.toNat : Int) 1 = 1) ↔ a.getLsbD 0 = true := by
  have h := and32 a 1#32
  have e : (((1#32 : BitVec 32).toNat : Nat) : Int) = 1 := by decide
  rw [e] at h
  rw [h]
  have e2 : (a &&& 1#32).toNat = a.toNat % 2 := by
    rw [BitVec.toNat_and]
    show a.toNat &&& 1 = _
    rw [Nat.and_one_is_mod]
  rw [e2, BitVec.getLsbD, Nat.testBit_zero]
  simp
  omega
theorem all32 (a : BitVec 32) : Go.bits .xor .u32 4294967295 (a.toNat : Int) = ((~~~ a).toNat : Int) := by
  have h := xor32 (BitVec.allOnes 32) a
  have e : (((BitVec.allOnes 32).toNat : Nat) : Int) = 4294967295 := by decide
  rw [e] at h
  rw [h, BitVec.allOnes_xor]
theorem byte32 (x : Int) : x % 4294967296 = ((BitVec.ofInt 32 x).toNat : Int) := by
  rw [BitVec.toNat_ofInt]; omega
theorem poly32 : ((poly.toNat : Nat) : Int) = 3988292384 := by decide
/-- a byte's own xor -/
theorem xor8 (x y : Int) (hx : 0 ≤ x ∧ x ≤ 255) (hy : 0 ≤ y ∧ y ≤ 255) :
    (0 ≤ Go.bits .xor .u8 x y ∧ Go.bits .xor .u8 x y ≤ 255) ∧ BitVec.ofInt 32 (Go.bits .xor .u8 x y) = BitVec.ofInt 32 x ^^^ BitVec.ofInt 32 y := by
  obtain ⟨a, rfl⟩ := Int.eq_ofNat_of_zero_le hx.1
  obtain ⟨b, rfl⟩ := Int.eq_ofNat_of_zero_le hy.1
  have ha : a < 256 := by omega
  have hb : b < 256 := by omega
  have hab : a ^^^ b < 256 := Nat.xor_lt_two_pow (n := 8) ha hb
  have e : Go.bits .xor .u8 (a : Int) (b : Int) = ((a ^^^ b : Nat) : Int) := by
    show IntKind.u8.wrap (((BitVec.ofInt 8 (a : Int) ^^^ BitVec.ofInt 8 (b : Int) : BitVec 8).toNat : Nat) : Int) = _
    simp only [BitVec.ofInt_natCast, BitVec.toNat_xor, BitVec.toNat_ofNat]
    rw [Nat.mod_eq_of_lt (show a < 2 ^ 8 from ha), Nat.mod_eq_of_lt (show b < 2 ^ 8 from hb)]
    have e : ∀ n : Int, IntKind.u8.wrap n = n % 256 := fun n => by simp [IntKind.wrap, IntKind.bits, IntKind.signed]
    rw [e]; omega
  rw [e]
  refine ⟨by omega, ?_⟩
  rw [BitVec.ofInt_natCast, BitVec.ofInt_natCast, BitVec.ofInt_natCast]
  apply BitVec.eq_of_toNat_eq
  simp only [BitVec.toNat_ofNat, BitVec.toNat_xor]
  rw [Nat.mod_eq_of_lt (show a < 2 ^ 32 by omega), Nat.mod_eq_of_lt (show b < 2 ^ 32 by omega), Nat.mod_eq_of_lt (show a ^^^ b < 2 ^ 32 by omega)]

end Go.Proofs.Ytfbbphpgiblhlaa.Crc
