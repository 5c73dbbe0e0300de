/- Numbers of variable length as lists: what is put, what is read, and back. No program in sight. -/
import Derived.Laws.BitsLemmas
import Derived.RowKit
namespace Go.Proofs.Ytdgjcgofghacjaa.Vint
open Go.RowKit

/-! ### A number's bytes -/
def enc (n : Nat) : List Int := if h : n < 128 then [(n : Int)] else ((n % 128 + 128 : Nat) : Int) :: enc (n / 128)
termination_by n
decreasing_by omega
theorem enc_lt {n : Nat} (h : n < 128) : enc n = [(n : Int)] := by rw [enc, dif_pos h]
theorem enc_ge {n : Nat} (h : ¬ n < 128) : enc n = ((n % 128 + 128 : Nat) : Int) :: enc (n / 128) := by rw [enc, dif_neg h]
theorem enc_pos (n : Nat) : 1 ≤ (enc n).length := by
  by_cases h : n < 128
  · rw [enc_lt h]; simp
  · rw [enc_ge h]; simp
theorem enc_bytes (n : Nat) : ∀ x ∈ enc n, 0 ≤ x ∧ x ≤ 255 := by
  induction n using Nat.strongRecOn with
  | _ n ih =>
    by_cases h : n < 128
    · rw [enc_lt h]; intro x hx; simp at hx; omega
    · rw [enc_ge h]
      intro x hx
      rcases List.mem_cons.1 hx with e | e
      · omega
      · exact ih _ (by omega) x e
theorem enc_len (k : Nat) : ∀ n : Nat, n < 2 ^ (7 * (k + 1)) → (enc n).length ≤ k + 1 := by
  induction k with
  | zero => intro n h; rw [enc_lt (by omega)]; simp
  | succ k ih =>
    intro n h
    by_cases c : n < 128
    · rw [enc_lt c]; simp
    · rw [enc_ge c]
      have : n / 128 < 2 ^ (7 * (k + 1)) := by
        rw [show 7 * (k + 1 + 1) = 7 * (k + 1) + 7 by omega, Nat.pow_add] at h
        omega
      have := ih _ this
      simp; omega
theorem enc_len64 {n : Nat} (h : n < 18446744073709551616) : (enc n).length ≤ 10 :=
  enc_len 9 n (by have : (18446744073709551616 : Nat) ≤ 2 ^ (7 * (9 + 1)) := by decide
                  omega)
theorem enc_mono (n : Nat) : ∀ m : Nat, n ≤ m → (enc n).length ≤ (enc m).length := by
  induction n using Nat.strongRecOn with
  | _ n ih =>
    intro m h
    by_cases c : n < 128
    · rw [enc_lt c]; exact enc_pos m
    · rw [enc_ge c, enc_ge (n := m) (by omega)]
      have := ih (n / 128) (by omega) (m / 128) (by omega)
      simp; omega
/-- unlike numbers have bytes that differ at a place of both -/
theorem enc_differ (a : Nat) : ∀ b : Nat, a ≠ b → ∃ i : Nat, i < (enc a).length ∧ i < (enc b).length ∧ (enc a).getD i 0 ≠ (enc b).getD i 0 ∧ ∀ j, j < i → (enc a).getD j 0 = (enc b).getD j 0 := by
  induction a using Nat.strongRecOn with
  | _ a ih =>
    intro b h
    by_cases ca : a < 128
    · by_cases cb : b < 128
      · refine ⟨0, enc_pos a, enc_pos b, ?_, fun j hj => by omega⟩
        rw [enc_lt ca, enc_lt cb]; simp; omega
      · refine ⟨0, enc_pos a, enc_pos b, ?_, fun j hj => by omega⟩
        rw [enc_lt ca, enc_ge cb]; simp; omega
    · by_cases cb : b < 128
      · refine ⟨0, enc_pos a, enc_pos b, ?_, fun j hj => by omega⟩
        rw [enc_ge ca, enc_lt cb]; simp; omega
      · by_cases e : a % 128 = b % 128
        · obtain ⟨i, h1, h2, h3, h4⟩ := ih (a / 128) (by omega) (b / 128) (by omega)
          refine ⟨i + 1, ?_, ?_, ?_, ?_⟩
          · rw [enc_ge ca]; simpa using h1
          · rw [enc_ge cb]; simpa using h2
          · rw [enc_ge ca, enc_ge cb]; simpa using h3
          · intro j hj
            rw [enc_ge ca, enc_ge cb]
            cases j with
            | zero => simp; omega
            | succ j => simpa using h4 j (by omega)
        · refine ⟨0, enc_pos a, enc_pos b, ?_, fun j hj => by omega⟩
          rw [enc_ge ca, enc_ge cb]; simp; omega

/-! ### What is read -/
/-- from byte i on, v behind us: the number and where it ends -/
def dec (v : Nat) (i : Nat) : List Int → Option (Nat × Nat)
  | [] => none
  | x :: r => if i ≥ 10 then none else if x ≥ 128 then dec (v + (x % 128).toNat * 2 ^ (7 * i)) (i + 1) r else if (x = 0 ∧ i > 0) ∨ (i = 9 ∧ x > 1) then none else some (v + x.toNat * 2 ^ (7 * i), i + 1)
theorem dec_enc (u : Nat) : ∀ (v i : Nat) (r : List Int), v + u * 2 ^ (7 * i) < 18446744073709551616 → (i > 0 → u ≥ 1) → i ≤ 9 → dec v i (enc u ++ r) = some (v + u * 2 ^ (7 * i), i + (enc u).length) := by
  induction u using Nat.strongRecOn with
  | _ u ih =>
    intro v i r hb hu hi
    by_cases c : u < 128
    · rw [enc_lt c, List.singleton_append, dec, if_neg (by omega), if_neg (by omega), if_neg]
      · simp
      · rintro (⟨h1, h2⟩ | ⟨h1, h2⟩)
        · have := hu h2; omega
        · subst h1
          have h3 : 2 * 2 ^ (7 * 9) ≤ u * 2 ^ (7 * 9) := Nat.mul_le_mul_right _ (by omega)
          have h4 : 2 * 2 ^ (7 * 9) = 18446744073709551616 := by decide
          omega
    · rw [enc_ge c, List.cons_append, dec, if_neg (by omega), if_pos (by omega)]
      have e1 : ((((u % 128 + 128 : Nat) : Int)) % 128).toNat = u % 128 := by omega
      rw [e1]
      have e2 : v + u % 128 * 2 ^ (7 * i) + u / 128 * 2 ^ (7 * (i + 1)) = v + u * 2 ^ (7 * i) := by
        rw [show 7 * (i + 1) = 7 * i + 7 by omega, Nat.pow_add]
        have h1 : u / 128 * (2 ^ (7 * i) * 2 ^ 7) = (u / 128 * 128) * 2 ^ (7 * i) := by
          rw [Nat.mul_comm (2 ^ (7 * i)), ← Nat.mul_assoc]
        rw [h1, Nat.add_assoc, ← Nat.add_mul]
        congr 2
        omega
      have hi9 : i ≤ 8 := by
        rcases Nat.lt_or_ge i 9 with h | h
        · omega
        · obtain rfl : i = 9 := by omega
          have h3 : 128 * 2 ^ (7 * 9) ≤ u * 2 ^ (7 * 9) := Nat.mul_le_mul_right _ (by omega)
          have h4 : 18446744073709551616 ≤ 128 * 2 ^ (7 * 9) := by decide
          omega
      rw [ih (u / 128) (by omega) _ (i + 1) r (by rw [e2]; exact hb) (fun _ => by omega) (by omega), e2]
      simp; omega
/-- what is read is what was put -/
theorem dec_back (r : List Int) : ∀ (v i V N : Nat), (∀ x ∈ r, 0 ≤ x ∧ x ≤ 255) → dec v i r = some (V, N) → ∃ u m, V = v + u * 2 ^ (7 * i) ∧ N = i + m ∧ m ≤ r.length ∧ r.take m = enc u ∧ (i > 0 → u ≥ 1) := by
  induction r with
  | nil => intro v i V N _ h; cases h
  | cons x r ih =>
    intro v i V N hb h
    have hx := hb x (by simp)
    rw [dec] at h
    by_cases c0 : i ≥ 10
    · rw [if_pos c0] at h; cases h
    rw [if_neg c0] at h
    by_cases c1 : x ≥ 128
    · rw [if_pos c1] at h
      obtain ⟨u, m, h1, h2, h3, h4, h5⟩ := ih _ _ _ _ (fun y hy => hb y (by simp [hy])) h
      have hu := h5 (by omega)
      refine ⟨(x % 128).toNat + 128 * u, m + 1, ?_, by omega, by simp; omega, ?_, fun _ => by omega⟩
      · rw [h1, show 7 * (i + 1) = 7 * i + 7 by omega, Nat.pow_add, Nat.add_mul, Nat.add_assoc]
        congr 1
        congr 1
        rw [Nat.mul_comm (2 ^ (7 * i)), ← Nat.mul_assoc]
        congr 1
        show u * 128 = 128 * u
        omega
      · have e1 : (x % 128).toNat + 128 * u = (x % 128).toNat + 128 * u := rfl
        have e2 : ((x % 128).toNat + 128 * u) / 128 = u := by omega
        have e3 : (((((x % 128).toNat + 128 * u) % 128 + 128 : Nat)) : Int) = x := by omega
        rw [List.take_succ_cons, h4, enc_ge (n := (x % 128).toNat + 128 * u) (by omega), e2, e3]
    · rw [if_neg c1] at h
      by_cases c2 : (x = 0 ∧ i > 0) ∨ (i = 9 ∧ x > 1)
      · rw [if_pos c2] at h; cases h
      · rw [if_neg c2] at h
        injection h with h
        injection h with h1 h2
        refine ⟨x.toNat, 1, h1.symm, h2.symm, by simp, ?_, fun hi => by omega⟩
        rw [enc_lt (by omega)]
        simp; omega
theorem dec_bound (r : List Int) : ∀ (v i V N : Nat), (∀ x ∈ r, 0 ≤ x ∧ x ≤ 255) → v < 2 ^ (7 * i) → i ≤ 9 → dec v i r = some (V, N) → V < 18446744073709551616 ∧ N ≤ 10 := by
  induction r with
  | nil => intro v i V N _ _ _ h; cases h
  | cons x r ih =>
    intro v i V N hb hv hi h
    have hx := hb x (by simp)
    rw [dec, if_neg (by omega)] at h
    by_cases c1 : x ≥ 128
    · rw [if_pos c1] at h
      by_cases h9 : i = 9
      · subst h9
        cases r with
        | nil => cases h
        | cons y r => rw [dec, if_pos (by omega)] at h; cases h
      · refine ih _ _ _ _ (fun y hy => hb y (by simp [hy])) ?_ (by omega) h
        rw [show 7 * (i + 1) = 7 * i + 7 by omega, Nat.pow_add]
        have : (x % 128).toNat * 2 ^ (7 * i) ≤ 127 * 2 ^ (7 * i) := Nat.mul_le_mul_right _ (by omega)
        omega
    · rw [if_neg c1] at h
      by_cases c2 : (x = 0 ∧ i > 0) ∨ (i = 9 ∧ x > 1)
      · rw [if_pos c2] at h; cases h
      · rw [if_neg c2] at h
        injection h with h
        injection h with h1 h2
        by_cases h9 : i = 9
        · subst h9
          have : x.toNat * 2 ^ (7 * 9) ≤ 1 * 2 ^ (7 * 9) := Nat.mul_le_mul_right _ (by omega)
          have h4 : (2 : Nat) ^ (7 * 9) = 9223372036854775808 := by decide
          omega
        · have : x.toNat * 2 ^ (7 * i) ≤ 127 * 2 ^ (7 * i) := Nat.mul_le_mul_right _ (by omega)
          have h5 : 2 ^ (7 * i) ≤ 2 ^ (7 * 8) := Nat.pow_le_pow_right (by decide) (by omega)
          have h4 : (2 : Nat) ^ (7 * 8) = 72057594037927936 := by decide
          omega

/-! ### How many bits -/
def bl (n : Nat) : Nat := if n = 0 then 0 else n.log2 + 1
theorem bl_div (n k : Nat) (h : 2 ^ k ≤ n) : bl n = k + bl (n / 2 ^ k) := by
  have hp : 0 < 2 ^ k := Nat.two_pow_pos k
  have h1 : n ≠ 0 := by omega
  have h2 : n / 2 ^ k ≠ 0 := by
    have := Nat.div_pos h hp
    omega
  unfold bl
  rw [if_neg h1, if_neg h2]
  have : n.log2 = k + (n / 2 ^ k).log2 := by
    rw [Nat.log2_eq_iff h1]
    have h3 := Nat.log2_self_le h2
    have h4 := @Nat.lt_log2_self (n / 2 ^ k)
    constructor
    · rw [Nat.pow_add]
      exact Nat.le_trans (Nat.mul_le_mul_left _ h3) (Nat.mul_div_le n (2 ^ k))
    · rw [Nat.add_assoc, Nat.pow_add, Nat.mul_comm]
      exact (Nat.div_lt_iff_lt_mul hp).1 h4
  omega
theorem bl_small {n k : Nat} (h : n < 2 ^ k) : bl n ≤ k := by
  unfold bl
  split
  · omega
  · rename_i h0
    have := (Nat.log2_lt h0).2 h
    omega
theorem enc_bits (n : Nat) : ((enc n).length : Int) = max 1 (((bl n : Int) + 6) / 7) := by
  induction n using Nat.strongRecOn with
  | _ n ih =>
    by_cases c : n < 128
    · have := bl_small (show n < 2 ^ 7 from c)
      rw [enc_lt c]; simp; omega
    · rw [enc_ge c, List.length_cons, Int.natCast_add, ih (n / 128) (by omega)]
      have h := bl_div n 7 (by show 128 ≤ n; omega)
      have h2 : bl (n / 2 ^ 7) = bl (n / 128) := rfl
      have h3 : 1 ≤ bl (n / 128) := by
        unfold bl
        rw [if_neg (by omega)]
        omega
      rw [h, h2]
      simp only [Int.natCast_add]
      omega

/-! ### Ints -/
def zz (v : Int) : Nat := if v ≥ 0 then (2 * v).toNat else (-2 * v - 1).toNat
def unzz (u : Nat) : Int := if u % 2 = 0 then (u / 2 : Nat) else -((u / 2 : Nat) : Int) - 1
theorem unzz_zz (v : Int) : unzz (zz v) = v := by
  unfold unzz zz
  by_cases h : v ≥ 0
  · rw [if_pos h, if_pos (by omega)]; omega
  · rw [if_neg h, if_neg (by omega)]; omega
theorem zz_bound {v : Int} (h0 : -9223372036854775808 ≤ v) (h1 : v ≤ 9223372036854775807) : zz v < 18446744073709551616 := by
  unfold zz; split <;> omega

/-! ### The walk's words -/
theorem wrap_u64 (n : Int) : IntKind.u64.wrap n = n % 18446744073709551616 := by simp [IntKind.wrap, IntKind.bits, IntKind.signed]
theorem wraps_u64 (n : Int) (h₀ : 0 ≤ n) (h₁ : n < 2 ^ 64) : IntKind.u64.wrap n = n := by rw [wrap_u64]; omega
theorem or128 : (List.range 256).all (fun x => decide (Go.bits .or .u8 (x : Int) 128 = ((x % 128 + 128 : Nat) : Int))) = true := by decide +kernel
theorem or_byte (x : Int) (h0 : 0 ≤ x) (h1 : x < 256) : Go.bits .or .u8 x 128 = x % 128 + 128 := by
  have h := of_decide_eq_true (List.all_eq_true.1 or128 x.toNat (List.mem_range.2 (by omega)))
  rw [Int.toNat_of_nonneg h0] at h
  rw [h]; omega
theorem and127 : (List.range 256).all (fun x => decide (Go.bits .and .u8 (x : Int) 127 = ((x % 128 : Nat) : Int))) = true := by decide +kernel
theorem and_byte (x : Int) (h0 : 0 ≤ x) (h1 : x < 256) : Go.bits .and .u8 x 127 = x % 128 := by
  have h := of_decide_eq_true (List.all_eq_true.1 and127 x.toNat (List.mem_range.2 (by omega)))
  rw [Int.toNat_of_nonneg h0] at h
  rw [h]; omega
theorem or_join (v d i : Nat) (hv : v < 2 ^ i) (hs : v + d * 2 ^ i < 18446744073709551616) : Go.bits .or .u64 (v : Int) ((d * 2 ^ i : Nat) : Int) = ((v + d * 2 ^ i : Nat) : Int) := by
  have e : (18446744073709551616 : Nat) = 2 ^ 64 := by decide
  rw [(bits_nat .u64 64 (by decide) (fun n h0 h1 => wraps_u64 n h0 h1) v (d * 2 ^ i) (by omega) (by omega)).2, Nat.or_comm, Nat.mul_comm, ← Nat.two_pow_add_eq_or_of_lt hv d]
  congr 1
  rw [Nat.add_comm]

theorem i64_xor (a b : BitVec 64) : Go.bits .xor .i64 a.toInt b.toInt = (a ^^^ b).toInt := by
  show IntKind.i64.wrap (((BitVec.ofInt 64 a.toInt ^^^ BitVec.ofInt 64 b.toInt : BitVec 64).toNat : Nat) : Int) = _
  rw [BitVec.ofInt_toInt, BitVec.ofInt_toInt, IntKind.wrap_i64, BitVec.toInt_eq_toNat_cond]
  have := (a ^^^ b).isLt
  split <;> omega
theorem i64_xor_m1 (a : Int) (h0 : -9223372036854775808 ≤ a) (h1 : a ≤ 9223372036854775807) : Go.bits .xor .i64 a (-1) = -a - 1 := by
  have ea : (BitVec.ofInt 64 a).toInt = a := by
    rw [BitVec.toInt_ofInt]
    exact Int.bmod_eq_of_le (by omega) (by omega)
  have eb : (BitVec.allOnes 64).toInt = -1 := by decide
  have h := i64_xor (BitVec.ofInt 64 a) (BitVec.allOnes 64)
  rw [ea, eb] at h
  have e4 : (((BitVec.ofInt 64 a).toNat : Nat) : Int) = a % 18446744073709551616 := by rw [BitVec.toNat_ofInt]; omega
  have := (BitVec.ofInt 64 a).isLt
  rw [h, BitVec.xor_allOnes, BitVec.toInt_eq_toNat_cond, BitVec.toNat_not]
  split <;> omega
theorem i64_xor_0 (a : Int) (h0 : -9223372036854775808 ≤ a) (h1 : a ≤ 9223372036854775807) : Go.bits .xor .i64 a 0 = a := by
  have ea : (BitVec.ofInt 64 a).toInt = a := by
    rw [BitVec.toInt_ofInt]
    exact Int.bmod_eq_of_le (by omega) (by omega)
  have h := i64_xor (BitVec.ofInt 64 a) 0#64
  have e0 : (0#64).toInt = 0 := by decide
  rw [ea, e0] at h
  rw [h, BitVec.xor_zero, ea]
theorem u64_xor (a b : BitVec 64) : Go.bits .xor .u64 (a.toNat : Int) (b.toNat : Int) = ((a ^^^ b).toNat : Int) := by
  show IntKind.u64.wrap (((BitVec.ofInt 64 (a.toNat : Int) ^^^ BitVec.ofInt 64 (b.toNat : Int) : BitVec 64).toNat : Nat) : Int) = _
  rw [BitVec.ofInt_natCast, BitVec.ofInt_natCast, BitVec.ofNat_toNat, BitVec.ofNat_toNat, BitVec.setWidth_eq, BitVec.setWidth_eq, wrap_u64]
  have := (a ^^^ b).isLt
  omega
theorem zz_eq (v : Int) (h0 : -9223372036854775808 ≤ v) (h1 : v ≤ 9223372036854775807) :
    Go.bits .xor .u64 (IntKind.u64.wrap (IntKind.u64.wrap v * 2)) (IntKind.u64.wrap (v / 9223372036854775808)) = (zz v : Int) := by
  have e1 : IntKind.u64.wrap (IntKind.u64.wrap v * 2) = (2 * v) % 18446744073709551616 := by rw [wrap_u64, wrap_u64]; omega
  have e2 : IntKind.u64.wrap (v / 9223372036854775808) = if v ≥ 0 then 0 else 18446744073709551615 := by rw [wrap_u64]; split <;> omega
  rw [e1, e2]
  have ea : ((BitVec.ofInt 64 (2 * v)).toNat : Int) = (2 * v) % 18446744073709551616 := by rw [BitVec.toNat_ofInt]; omega
  by_cases h : v ≥ 0
  · rw [if_pos h]
    have hx := u64_xor (BitVec.ofInt 64 (2 * v)) 0#64
    have e0 : (((0#64).toNat : Nat) : Int) = 0 := by decide
    rw [ea, e0] at hx
    rw [hx, BitVec.xor_zero, ea]
    unfold zz; rw [if_pos h]; omega
  · rw [if_neg h]
    have hx := u64_xor (BitVec.ofInt 64 (2 * v)) (BitVec.allOnes 64)
    have e0 : (((BitVec.allOnes 64).toNat : Nat) : Int) = 18446744073709551615 := by decide
    rw [ea, e0] at hx
    rw [hx, BitVec.xor_allOnes, BitVec.toNat_not]
    have := (BitVec.ofInt 64 (2 * v)).isLt
    unfold zz; rw [if_neg h]
    omega
theorem and_one (u : Nat) (h : u < 18446744073709551616) : Go.bits .and .u64 (u : Int) 1 = (u : Int) % 2 := by
  have e : (2 : Int) ^ 64 = 18446744073709551616 := by decide
  have h2 : (u : Int) < 2 ^ 64 := by rw [e]; omega
  have h3 := bits_mask .u64 64 (by decide) (fun n h0 h1 => wraps_u64 n h0 h1) 1 (by decide) (u : Int) (by omega) h2
  exact h3
theorem unzz_eq (u : Nat) (h : u < 18446744073709551616) : Go.bits .xor .i64 (wrap64 ((u : Int) / 2)) (wrap64 (-(wrap64 (Go.bits .and .u64 (u : Int) 1)))) = unzz u := by
  rw [and_one u h]
  have w1 : wrap64 ((u : Int) / 2) = (u : Int) / 2 := by unfold wrap64; omega
  have w2 : wrap64 ((u : Int) % 2) = (u : Int) % 2 := by unfold wrap64; omega
  have w3 : wrap64 (-((u : Int) % 2)) = -((u : Int) % 2) := by unfold wrap64; omega
  rw [w1, w2, w3]
  unfold unzz
  by_cases c : u % 2 = 0
  · rw [if_pos c, show -((u : Int) % 2) = 0 by omega, i64_xor_0 _ (by omega) (by omega)]; omega
  · rw [if_neg c, show -((u : Int) % 2) = -1 by omega, i64_xor_m1 _ (by omega) (by omega)]; omega

end Go.Proofs.Ytdgjcgofghacjaa.Vint
