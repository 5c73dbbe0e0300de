/- Functions of the pages, walked. Conditions: those of each theorem. -/
import Derived.Test.YtnogdgdkeojlpaaAm5
import Derived.Test.YtnogdgdkeojlpaaTg5
import Derived.Test.YtnogdgdkeojlpaaTg6
namespace Go.Proofs.Ytnogdgdkeojlpaa.Am
open Go.Proofs
set_option maxRecDepth 1000000
set_option maxHeartbeats 4000000
set_option linter.unusedSimpArgs false
set_option linter.unusedVariables false
theorem w32 {n : Nat} (h : n < 2 ^ 32) : IntKind.u32.wrap (n : Int) = n := by
  have e : IntKind.u32.wrap (n : Int) = (n : Int) % 4294967296 := by simp [IntKind.wrap, IntKind.bits, IntKind.signed]
  rw [e]; omega
theorem xorN {a b : Nat} (ha : a < 2 ^ 32) (hb : b < 2 ^ 32) : Go.bits .xor .u32 (a : Int) (b : Int) = ((a ^^^ b : Nat) : Int) := by
  show IntKind.u32.wrap (((BitVec.ofInt 32 (a : Int) ^^^ BitVec.ofInt 32 (b : Int)).toNat : Nat) : Int) = _
  simp only [BitVec.ofInt_natCast, BitVec.toNat_xor, BitVec.toNat_ofNat]
  rw [Nat.mod_eq_of_lt ha, Nat.mod_eq_of_lt hb]
  exact w32 (Nat.xor_lt_two_pow ha hb)
theorem orN {a b : Nat} (ha : a < 2 ^ 32) (hb : b < 2 ^ 32) : Go.bits .or .u32 (a : Int) (b : Int) = ((a ||| b : Nat) : Int) := by
  show IntKind.u32.wrap (((BitVec.ofInt 32 (a : Int) ||| BitVec.ofInt 32 (b : Int)).toNat : Nat) : Int) = _
  simp only [BitVec.ofInt_natCast, BitVec.toNat_or, BitVec.toNat_ofNat]
  rw [Nat.mod_eq_of_lt ha, Nat.mod_eq_of_lt hb]
  exact w32 (Nat.or_lt_two_pow ha hb)
theorem andN {a : Nat} (ha : a < 2 ^ 32) : Go.bits .and .u32 (a : Int) 1 = ((a % 2 : Nat) : Int) := by
  show IntKind.u32.wrap (((BitVec.ofInt 32 (a : Int) &&& BitVec.ofInt 32 ((1 : Nat) : Int)).toNat : Nat) : Int) = _
  simp only [BitVec.ofInt_natCast, BitVec.toNat_and, BitVec.toNat_ofNat]
  rw [Nat.mod_eq_of_lt ha, Nat.mod_eq_of_lt (by omega), Nat.and_one_is_mod]
  exact w32 (by omega)
theorem fd2 (a : Nat) : (a : Int).fdiv 2 = ((a / 2 : Nat) : Int) := by
  rw [Int.fdiv_eq_ediv_of_nonneg _ (by omega)]; omega
def cbn (c : Nat) : Nat := if c % 2 = 1 then c / 2 ^^^ 3988292384 else c / 2
theorem cbn_lt {c : Nat} (h : c < 2 ^ 32) : cbn c < 2 ^ 32 := by
  unfold cbn; split
  · exact Nat.xor_lt_two_pow (by omega) (by omega)
  · omega
theorem cb_n {c : Nat} (h : c < 2 ^ 32) : cb (c : Int) = (cbn c : Int) := by
  unfold cb cbn
  rw [andN h, fd2]
  by_cases e : c % 2 = 1
  · rw [if_pos (by omega), if_pos e]; exact xorN (a := c / 2) (b := 3988292384) (by omega) (by omega)
  · rw [if_neg (by omega), if_neg e]
theorem rb_n {a y : Nat} (ha : a < 2 ^ 32) (hy : y < 256) : rb (a : Int) (Go.bits .and .u32 (y : Int) 1) = ((cbn (a ^^^ y) ^^^ (y / 2) : Nat) : Int) := by
  unfold rb
  rw [andN (by omega), xorN ha (by omega), andN (Nat.xor_lt_two_pow ha (by omega)), fd2]
  have h1 : (a ^^^ y % 2) % 2 = 1 ↔ (a ^^^ y) % 2 = 1 := by rw [Nat.xor_mod_two_eq_one, Nat.xor_mod_two_eq_one, Nat.mod_mod]
  have h2 : (a ^^^ y) / 2 = a / 2 ^^^ y / 2 := Nat.xor_div_two
  have h3 : ∀ p q r : Nat, (p ^^^ q) ^^^ r ^^^ q = p ^^^ r := fun p q r => by
    rw [Nat.xor_assoc, Nat.xor_assoc, ← Nat.xor_assoc q r q, Nat.xor_comm q r, Nat.xor_assoc r q q, Nat.xor_self, Nat.xor_zero]
  unfold cbn
  by_cases e : (a ^^^ y) % 2 = 1
  · have x1 : Go.bits .xor .u32 ((a / 2 : Nat) : Int) 3988292384 = ((a / 2 ^^^ 3988292384 : Nat) : Int) := xorN (a := a / 2) (b := 3988292384) (by omega) (by omega)
    rw [if_pos (by have := h1.2 e; omega), if_pos e, x1, h2, h3]
  · rw [if_neg (fun z => e (h1.1 (by omega))), if_neg e, h2, Nat.xor_assoc, Nat.xor_self, Nat.xor_zero]
theorem cbN_n (k : Nat) {c : Nat} (h : c < 2 ^ 32) : ∃ m : Nat, m < 2 ^ 32 ∧ cbN k (c : Int) = (m : Int) := by
  induction k with
  | zero => exact ⟨c, h, rfl⟩
  | succ k ih =>
    obtain ⟨m, h1, h2⟩ := ih
    exact ⟨cbn m, cbn_lt h1, by show cb (cbN k c) = _; rw [h2, cb_n h1]⟩
theorem rbN_n (x : Nat) (hx : x < 256) {c : Nat} (h : c < 2 ^ 32) : ∀ k, k ≤ 8 → ∃ m d : Nat, m < 2 ^ 32 ∧ d < 2 ^ 32 ∧ rbN (x : Int) k (c : Int) = (m : Int) ∧ cbN k (Go.bits .xor .u32 (c : Int) (x : Int)) = (d : Int) ∧ m = d ^^^ (x / 2 ^ k)
  | 0, _ => ⟨c, c ^^^ x, h, Nat.xor_lt_two_pow h (by omega), rfl, xorN h (by omega), by rw [Nat.pow_zero, Nat.div_one, Nat.xor_assoc, Nat.xor_self, Nat.xor_zero]⟩
  | k + 1, hk => by
    obtain ⟨m, d, h1, h2, h3, h4, h5⟩ := rbN_n x hx h k (by omega)
    have e1 : rbN (x : Int) (k + 1) (c : Int) = rb (m : Int) (Go.bits .and .u32 ((x : Int).fdiv (pow2 (min k 8))) 1) := by rw [← h3]; rfl
    have e2 : (x : Int).fdiv (pow2 (min k 8)) = ((x / 2 ^ k : Nat) : Int) := by
      rw [Nat.min_eq_left (by omega), Int.fdiv_eq_ediv_of_nonneg _ (show (0 : Int) ≤ pow2 _ from Int.natCast_nonneg _)]; unfold pow2; rfl
    have hy : x / 2 ^ k < 256 := Nat.lt_of_le_of_lt (Nat.div_le_self _ _) hx
    have hmd : m ^^^ (x / 2 ^ k) = d := by rw [h5, Nat.xor_assoc, Nat.xor_self, Nat.xor_zero]
    refine ⟨cbn d ^^^ (x / 2 ^ k / 2), cbn d, Nat.xor_lt_two_pow (cbn_lt h2) (by omega), cbn_lt h2, ?_, ?_, ?_⟩
    · rw [e1, e2, rb_n h1 hy, hmd]
    · show cb (cbN k _) = _; rw [h4, cb_n h2]
    · rw [Nat.pow_succ, Nat.div_div_eq_div_mul]
theorem byte_eq (x : Nat) (hx : x < 256) {c : Nat} (h : c < 2 ^ 32) : ∃ m : Nat, m < 2 ^ 32 ∧ rby (c : Int) (x : Int) = (m : Int) ∧ cby (c : Int) (x : Int) = (m : Int) := by
  obtain ⟨m, d, h1, h2, h3, h4, h5⟩ := rbN_n x hx h 8 (Nat.le_refl _)
  have : x / 2 ^ 8 = 0 := Nat.div_eq_of_lt (by omega)
  rw [this, Nat.xor_zero] at h5
  subst h5
  exact ⟨m, h1, h3, h4⟩
theorem fold_eq : ∀ (l : List Int), Byt l → ∀ (c : Nat), c < 2 ^ 32 → ∃ m : Nat, m < 2 ^ 32 ∧ rfold (c : Int) l = (m : Int) ∧ cfold (c : Int) l = (m : Int)
  | [], _, c, h => ⟨c, h, rfl, rfl⟩
  | x :: l, hb, c, h => by
    have h1 := hb x (List.mem_cons_self ..)
    obtain ⟨y, rfl⟩ := Int.eq_ofNat_of_zero_le h1.1
    obtain ⟨m, h2, h3, h4⟩ := byte_eq y (by omega) h
    obtain ⟨q, h5, h6, h7⟩ := fold_eq l (fun z hz => hb z (List.mem_cons_of_mem _ hz)) m h2
    exact ⟨q, h5, by show rfold (rby c y) l = _; rw [h3]; exact h6, by show cfold (cby c y) l = _; rw [h4]; exact h7⟩
theorem sum_eq (l : List Int) (hb : Byt l) : rcrM 0 l = crcM 0 l := by
  unfold rcrM crcM
  have e : Go.bits .xor .u32 0 4294967295 = Go.bits .xor .u32 4294967295 0 := by decide
  have e2 : Go.bits .xor .u32 4294967295 0 = ((4294967295 : Nat) : Int) := by decide
  rw [e, e2]
  obtain ⟨m, h1, h2, h3⟩ := fold_eq l hb 4294967295 (by omega)
  rw [h2, h3]
  have a := xorN (a := m) (b := 4294967295) h1 (by omega)
  have b := xorN (a := 4294967295) (b := m) (by omega) h1
  rw [Nat.xor_comm] at b
  exact a.trans b.symm
theorem crc_rng (l : List Int) (hb : Byt l) : 0 ≤ crcM 0 l ∧ crcM 0 l < 4294967296 := by
  unfold crcM
  have e2 : Go.bits .xor .u32 4294967295 0 = ((4294967295 : Nat) : Int) := by decide
  rw [e2]
  obtain ⟨m, h1, h2, h3⟩ := fold_eq l hb 4294967295 (by omega)
  rw [h3]
  have b := xorN (a := 4294967295) (b := m) (by omega) h1
  have := Nat.xor_lt_two_pow (x := 4294967295) (y := m) (n := 32) (by omega) h1
  have e3 : ((4294967295 : Nat) : Int) = 4294967295 := rfl
  rw [e3] at b
  rw [b]; omega
theorem leB_n (v i : Nat) (hv : v < 2 ^ 32) (hi : i < 4) : leB (v : Int) i = ((v / 2 ^ (8 * i) % 256 : Nat) : Int) := by
  unfold leB
  have e1 : min (8 * (i : Int)).toNat IntKind.u32.bits = 8 * i := by
    have : (8 * (i : Int)).toNat = 8 * i := by omega
    rw [this]; show min (8 * i) 32 = _; omega
  rw [e1, Int.fdiv_eq_ediv_of_nonneg _ (show (0 : Int) ≤ pow2 _ from Int.natCast_nonneg _)]
  unfold pow2
  rw [wr_eq]
  have e : ∀ n : Int, IntKind.u8.wrap n = n % 256 := fun n => by simp [IntKind.wrap, IntKind.bits, IntKind.signed]
  rw [e]; rfl
theorem or_add {a b i : Nat} (h : a < 2 ^ i) : a ||| b * 2 ^ i = a + b * 2 ^ i := by
  rw [Nat.or_comm, Nat.mul_comm, ← Nat.two_pow_add_eq_or_of_lt h]; omega
theorem geN_n (f : Nat → Nat) (hf : ∀ i, i < 4 → f i < 256) : geN (fun i => (f i : Int)) 4 = ((f 0 + f 1 * 256 + f 2 * 65536 + f 3 * 16777216 : Nat) : Int) := by
  have f0 := hf 0 (by omega)
  have f1 := hf 1 (by omega)
  have f2 := hf 2 (by omega)
  have f3 := hf 3 (by omega)
  have w : ∀ m : Nat, m < 2 ^ 32 → wr .u32 (m : Int) = m := fun m hm => by rw [wr_eq]; exact w32 hm
  have s : ∀ (b i : Nat), i < 4 → b < 256 → wr .u32 ((b : Int) * pow2 (min (8 * (i : Int)).toNat IntKind.u32.bits)) = ((b * 2 ^ (8 * i) : Nat) : Int) := fun b i hi hb => by
    have e1 : min (8 * (i : Int)).toNat IntKind.u32.bits = 8 * i := by
      have : (8 * (i : Int)).toNat = 8 * i := by omega
      rw [this]; show min (8 * i) 32 = _; omega
    rw [e1]
    have e2 : (b : Int) * pow2 (8 * i) = ((b * 2 ^ (8 * i) : Nat) : Int) := by unfold pow2; push_cast; rfl
    rw [e2]
    refine w _ ?_
    obtain rfl | rfl | rfl | rfl : i = 0 ∨ i = 1 ∨ i = 2 ∨ i = 3 := by omega
    all_goals omega
  simp only [geN]
  rw [s _ 0 (by omega) f0, s _ 1 (by omega) f1, s _ 2 (by omega) f2, s _ 3 (by omega) f3]
  have o1 : Go.bits .or .u32 0 ((f 0 * 2 ^ (8 * 0) : Nat) : Int) = ((f 0 : Nat) : Int) := by
    have := orN (a := 0) (b := f 0 * 2 ^ (8 * 0)) (by omega) (by omega)
    rw [Nat.zero_or] at this
    refine this.trans ?_
    omega
  rw [o1]
  have o2 := orN (a := f 0) (b := f 1 * 2 ^ (8 * 1)) (by omega) (by omega)
  rw [or_add (i := 8 * 1) (by omega)] at o2
  rw [o2]
  have o3 := orN (a := f 0 + f 1 * 2 ^ (8 * 1)) (b := f 2 * 2 ^ (8 * 2)) (by omega) (by omega)
  rw [or_add (i := 8 * 2) (by omega)] at o3
  rw [o3]
  have o4 := orN (a := f 0 + f 1 * 2 ^ (8 * 1) + f 2 * 2 ^ (8 * 2)) (b := f 3 * 2 ^ (8 * 3)) (by omega) (by omega)
  rw [or_add (i := 8 * 3) (by omega)] at o4
  rw [o4]
theorem geN_congr {f g : Nat → Int} (h : ∀ i, i < 4 → f i = g i) : geN f 4 = geN g 4 := by
  simp only [geN, h 0 (by omega), h 1 (by omega), h 2 (by omega), h 3 (by omega)]
theorem ge_le (v : Int) (h : 0 ≤ v ∧ v < 4294967296) : geN (fun i => (le4 v).getD i 0) 4 = v := by
  obtain ⟨n, rfl⟩ := Int.eq_ofNat_of_zero_le h.1
  have hn : n < 2 ^ 32 := by omega
  have e : geN (fun i => (le4 (n : Int)).getD i 0) 4 = geN (fun i => ((n / 2 ^ (8 * i) % 256 : Nat) : Int)) 4 := geN_congr fun i hi => by
    rw [← leB_n n i hn hi, List.getD_eq_getElem?_getD, le4_get _ i hi]; rfl
  rw [e, geN_n _ (fun i _ => by omega)]
  congr 1
  omega
end Go.Proofs.Ytnogdgdkeojlpaa.Am

