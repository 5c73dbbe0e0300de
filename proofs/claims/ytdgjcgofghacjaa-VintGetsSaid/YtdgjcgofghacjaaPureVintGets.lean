/- VintGets: numbers of variable length, put and read again. Conditions: none beyond the row's own. -/
import Derived.Test.YtdgjcgofghacjaaPVintGetsx3
import Derived.Test.YtdgjcgofghacjaaVintMath
namespace Go.Proofs.Ytdgjcgofghacjaa.Pure
open Go.RowKit Go.Proofs.Ytdgjcgofghacjaa.PVintGets Go.Proofs.YtdgjcgofghacjaaW.PrintWords Go.Proofs.YtdgjcgofghacjaaW.PrintLast Go.Proofs.YtdgjcgofghacjaaW.PrintMore Go.Proofs.Ytdgjcgofghacjaa

/-! ### Get -/
def getR (o : Option (Nat × Nat)) : Int × Int × Int := match o with
  | some (V, N) => ((V : Int), (N : Int), 0)
  | none => (0, 0, 11)
theorem get_or (v i : Nat) (x : Int) (h0 : 0 ≤ x) (h1 : x ≤ 255) (hv : v < 2 ^ (7 * i)) (hok : i ≤ 8 ∨ (i = 9 ∧ x % 128 ≤ 1)) :
    Go.bits .or .u64 (v : Int) (shl .u64 (IntKind.u64.wrap (Go.bits .and .u8 x 127)) ((7 * i : Nat) : Int)) = ((v + (x % 128).toNat * 2 ^ (7 * i) : Nat) : Int) ∧ v + (x % 128).toNat * 2 ^ (7 * i) < 2 ^ (7 * (i + 1)) := by
  have hd : (x % 128).toNat * 2 ^ (7 * i) + 2 ^ (7 * i) ≤ 18446744073709551616 := by
    rw [← Nat.succ_mul]
    rcases hok with h | ⟨h, h2⟩
    · have h5 : 2 ^ (7 * i) ≤ 2 ^ (7 * 8) := Nat.pow_le_pow_right (by decide) (by omega)
      have h6 : ((x % 128).toNat + 1) * 2 ^ (7 * i) ≤ 128 * 2 ^ (7 * 8) := Nat.mul_le_mul (by omega) h5
      have h4 : (128 : Nat) * 2 ^ (7 * 8) ≤ 18446744073709551616 := by decide
      exact Nat.le_trans h6 h4
    · subst h
      have h6 : ((x % 128).toNat + 1) * 2 ^ (7 * 9) ≤ 2 * 2 ^ (7 * 9) := Nat.mul_le_mul_right _ (by omega)
      have h4 : (2 : Nat) * 2 ^ (7 * 9) ≤ 18446744073709551616 := by decide
      exact Nat.le_trans h6 h4
  constructor
  · have hs : shl .u64 (IntKind.u64.wrap (Go.bits .and .u8 x 127)) ((7 * i : Nat) : Int) = (((x % 128).toNat * 2 ^ (7 * i) : Nat) : Int) := by
      unfold shl
      have e1 : IntKind.u64.wrap (Go.bits .and .u8 x 127) = (((x % 128).toNat : Nat) : Int) := by
        rw [Vint.and_byte x h0 (by omega), Vint.wrap_u64]; omega
      have e2 : min (((7 * i : Nat) : Int)).toNat IntKind.u64.bits = 7 * i := by
        rw [Int.toNat_natCast]; exact Nat.min_eq_left (by show 7 * i ≤ 64; omega)
      have e3 : (((x % 128).toNat : Nat) : Int) * 2 ^ (7 * i) = (((x % 128).toNat * 2 ^ (7 * i) : Nat) : Int) := by
        rw [Int.natCast_mul, Int.natCast_pow]; rfl
      rw [e1, e2, e3, Vint.wrap_u64]
      omega
    rw [hs]
    exact Vint.or_join v _ _ hv (by omega)
  · rw [show 7 * (i + 1) = 7 * i + 7 by omega, Nat.pow_add]
    have : (x % 128).toNat * 2 ^ (7 * i) ≤ 127 * 2 ^ (7 * i) := Nat.mul_le_mul_right _ (by omega)
    omega
theorem get_end (L : List Int) (v i : Int) (h : ¬ i < (L.length : Int)) : Ev (fun k => vint_Get.l0 k v L (L.length : Int) i) (0, 0, 11) := by
  refine Ev.step (f := fun _ => some (0, 0, 11)) (fun k => ?_) (Ev.now _)
  simp only [vint_Get.l0]
  rw [if_neg h]
theorem get_j1 (v i x : Int) (b : Bool) : Ev (fun k => vint_Get.j1 k v i x b) (if b = true then (0, 0, 11) else if i = 9 then (if x > 1 then (0, 0, 11) else (v, wrap64 (i + 1), 0)) else (v, wrap64 (i + 1), 0)) := by
  refine Ev.step (f := fun _ => some _) (fun k => ?_) (Ev.now _)
  simp only [vint_Get.j1]
  repeat' split
  all_goals rfl
theorem get_loop (L : List Int) (hL : L.length ≤ 10) (hb : ∀ x ∈ L, 0 ≤ x ∧ x ≤ 255) (d : Nat) : ∀ (i v : Nat), L.length - i = d → i ≤ L.length → v < 2 ^ (7 * i) →
    Ev (fun k => vint_Get.l0 k (v : Int) L (L.length : Int) (i : Int)) (getR (Vint.dec v i (L.drop i))) := by
  induction d with
  | zero =>
    intro i v hd hi hv
    obtain rfl : i = L.length := by omega
    rw [List.drop_length]
    exact get_end L v _ (by omega)
  | succ d ih =>
    intro i v hd hi hv
    have hlt : i < L.length := by omega
    obtain ⟨x, hx, hrd⟩ : ∃ x, L.drop i = x :: L.drop (i + 1) ∧ rd L (i : Int) = x := ⟨L[i], List.drop_eq_getElem_cons hlt, by unfold rd; rw [Int.toNat_natCast]; simp [hlt]⟩
    obtain ⟨h0, h1⟩ := hb x (by have : x ∈ L.drop i := by rw [hx]; simp
                                exact List.mem_of_mem_drop this)
    have w1 : wrap64 (7 * (i : Int)) = ((7 * i : Nat) : Int) := by unfold wrap64; omega
    have w2 : wrap64 ((i : Int) + 1) = ((i + 1 : Nat) : Int) := by unfold wrap64; omega
    have hp : (0 : Int) ≤ wrap64 (7 * (i : Int)) := by rw [w1]; omega
    rw [hx, Vint.dec, if_neg (by omega : ¬ i ≥ 10)]
    by_cases c : x ≥ 128
    · rw [if_pos c]
      by_cases h9 : i = 9
      · rw [List.drop_eq_nil_of_le (by omega)]
        refine Ev.step (f := fun k => vint_Get.l0 k (Go.bits .or .u64 (v : Int) (shl .u64 (IntKind.u64.wrap (Go.bits .and .u8 x 127)) (wrap64 (7 * (i : Int))))) L (L.length : Int) (wrap64 ((i : Int) + 1))) (fun k => ?_) (get_end L _ _ (by rw [w2]; omega))
        simp only [vint_Get.l0]
        rw [if_pos (by omega), if_pos (by omega), if_pos (by omega), if_pos hp, hrd, if_pos c]
      · have ho := get_or v i x h0 h1 hv (Or.inl (by omega))
        refine Ev.step (f := fun k => vint_Get.l0 k ((v + (x % 128).toNat * 2 ^ (7 * i) : Nat) : Int) L (L.length : Int) ((i + 1 : Nat) : Int)) (fun k => ?_) (ih (i + 1) _ (by omega) (by omega) ho.2)
        simp only [vint_Get.l0]
        rw [if_pos (by omega), if_pos (by omega), if_pos (by omega), if_pos hp, hrd, if_pos c, w1, ho.1, w2]
    · rw [if_neg c]
      have hxm : x % 128 = x := by omega
      have hJ : Ev (fun k => vint_Get.l0 k (v : Int) L (L.length : Int) (i : Int)) (if (decide (x = 0 ∧ (i : Int) > 0)) = true then (0, 0, 11) else if (i : Int) = 9 then (if x > 1 then (0, 0, 11) else (Go.bits .or .u64 (v : Int) (shl .u64 (IntKind.u64.wrap (Go.bits .and .u8 x 127)) ((7 * i : Nat) : Int)), wrap64 ((i : Int) + 1), 0)) else (Go.bits .or .u64 (v : Int) (shl .u64 (IntKind.u64.wrap (Go.bits .and .u8 x 127)) ((7 * i : Nat) : Int)), wrap64 ((i : Int) + 1), 0)) := by
        refine Ev.step (f := fun k => vint_Get.j1 k (Go.bits .or .u64 (v : Int) (shl .u64 (IntKind.u64.wrap (Go.bits .and .u8 x 127)) ((7 * i : Nat) : Int))) (i : Int) x (decide (x = 0 ∧ (i : Int) > 0))) (fun k => ?_) (get_j1 _ _ _ _)
        simp only [vint_Get.l0]
        rw [if_pos (by omega), if_pos (by omega), if_pos (by omega), if_pos hp, hrd, if_neg c, w1]
        by_cases hz : x = 0
        · rw [if_pos hz]; simp [hz]
        · rw [if_neg hz]; simp [hz]
      by_cases c2 : (x = 0 ∧ i > 0) ∨ (i = 9 ∧ x > 1)
      · rw [if_pos c2]
        show Ev _ (0, 0, 11)
        rcases c2 with ⟨e, e2⟩ | ⟨e, e2⟩
        · rw [if_pos (decide_eq_true ⟨e, by omega⟩)] at hJ; exact hJ
        · rw [if_neg (by rw [decide_eq_true_eq]; omega), if_pos (by omega), if_pos e2] at hJ; exact hJ
      · rw [if_neg c2]
        have ho := get_or v i x h0 h1 hv (by omega)
        rw [hxm] at ho
        rw [if_neg (by rw [decide_eq_true_eq]; omega), ho.1, w2] at hJ
        show Ev _ (((v + x.toNat * 2 ^ (7 * i) : Nat) : Int), ((i + 1 : Nat) : Int), 0)
        by_cases e : (i : Int) = 9
        · rw [if_pos e, if_neg (by omega)] at hJ; exact hJ
        · rw [if_neg e] at hJ; exact hJ
theorem get_spec (l : List Int) (hb : ∀ x ∈ l, 0 ≤ x ∧ x ≤ 255) : Ev (fun k => vint_Get.f k l) (getR (Vint.dec 0 0 (l.take 10))) := by
  have hm : (mn (l.length : Int) 10) = ((min l.length 10 : Nat) : Int) := by unfold mn; split <;> omega
  have ht : l.take (mn (l.length : Int) 10).toNat = l.take 10 := by
    rw [hm, Int.toNat_natCast]
    rcases Nat.le_total l.length 10 with h | h
    · rw [Nat.min_eq_left h, List.take_length, List.take_of_length_le h]
    · rw [Nat.min_eq_right h]
  refine Ev.congr (f := fun k => vint_Get.l0 k ((0 : Nat) : Int) (l.take 10) ((l.take 10).length : Int) ((0 : Nat) : Int)) (fun k => ?_) ?_
  · unfold vint_Get.f
    rw [if_pos (by rw [hm]; omega), if_pos (by rw [hm]; omega), ht]
    rfl
  · have := get_loop (l.take 10) (by simp; omega) (fun x hx => hb x (List.mem_of_mem_take hx)) _ 0 0 rfl (by omega) (by decide)
    rwa [List.drop_zero] at this
theorem dec_small {V N : Nat} {l : List Int} (hb : ∀ x ∈ l, 0 ≤ x ∧ x ≤ 255) (h : Vint.dec 0 0 l = some (V, N)) : V < 18446744073709551616 ∧ N ≤ 10 :=
  Vint.dec_bound l 0 0 V N hb (by decide) (by decide) h
def getIR (o : Option (Nat × Nat)) : Int × Int × Int := match o with
  | some (V, N) => (Vint.unzz V, (N : Int), 0)
  | none => (0, 0, 11)
theorem getint_spec (l : List Int) (hb : ∀ x ∈ l, 0 ≤ x ∧ x ≤ 255) : Ev (fun k => vint_GetInt.f k l) (getIR (Vint.dec 0 0 (l.take 10))) := by
  unfold vint_GetInt.f
  refine Ev.bind (get_spec l hb) ?_
  cases h : Vint.dec 0 0 (l.take 10) with
  | none =>
    refine Ev.congr (f := fun _ => some (0, 0, 11)) (fun k => ?_) (Ev.now _)
    simp only [getR]
    have := Vint.unzz_eq 0 (by decide)
    rw [show ((0 : Nat) : Int) = 0 from rfl] at this
    rw [this]; rfl
  | some p =>
    obtain ⟨V, N⟩ := p
    have hV := dec_small (fun x hx => hb x (List.mem_of_mem_take hx)) h
    refine Ev.congr (f := fun _ => some (Vint.unzz V, (N : Int), 0)) (fun k => ?_) (Ev.now _)
    simp only [getR]
    rw [Vint.unzz_eq V hV.1]

/-! ### Put -/
theorem clone_spec (l : List Int) (h : l.length < 140737488355328) : slices_Clone_byte_byte.f l = some l := by
  unfold slices_Clone_byte_byte.f
  simp only [Option.bind_some, List.length_nil, Nat.zero_add, List.nil_append]
  rw [if_pos h]
theorem put_loop (n : Nat) : ∀ l : List Int, l.length + (Vint.enc n).length ≤ 140737488355328 → Ev (fun k => vint_Put.l0 k l (n : Int)) (l ++ Vint.enc n) := by
  induction n using Nat.strongRecOn with
  | _ n ih =>
    intro l h
    by_cases c : n < 128
    · rw [Vint.enc_lt c] at h ⊢
      refine Ev.step (f := fun _ => some (l ++ [(n : Int)])) (fun k => ?_) (Ev.now _)
      simp only [vint_Put.l0]
      simp only [List.length_cons, List.length_nil] at h
      rw [if_neg (by omega), if_pos (by omega), Int.emod_eq_of_lt (by omega) (by omega)]
    · rw [Vint.enc_ge c] at h ⊢
      have hp := Vint.enc_pos (n / 128)
      simp only [List.length_cons] at h
      have e1 : Go.bits .or .u8 ((n : Int) % 256) 128 = ((n % 128 + 128 : Nat) : Int) := by
        rw [Vint.or_byte _ (by omega) (by omega)]; omega
      have e2 : (n : Int) / 128 = ((n / 128 : Nat) : Int) := by omega
      have := ih (n / 128) (by omega) (l ++ [((n % 128 + 128 : Nat) : Int)]) (by simp; omega)
      rw [List.append_assoc, List.singleton_append] at this
      refine Ev.step (f := fun k => vint_Put.l0 k (l ++ [((n % 128 + 128 : Nat) : Int)]) ((n / 128 : Nat) : Int)) (fun k => ?_) this
      simp only [vint_Put.l0]
      rw [if_pos (by omega), if_pos (by omega), e1, e2]
theorem put_spec (n : Nat) (hn : n < 18446744073709551616) (l : List Int) (h : l.length + 10 ≤ 140737488355328) : Ev (fun k => vint_Put.f k l (n : Int)) (l ++ Vint.enc n) := by
  have := Vint.enc_len64 hn
  refine Ev.congr (f := fun k => vint_Put.l0 k l (n : Int)) (fun k => ?_) (put_loop n l (by omega))
  unfold vint_Put.f
  rw [clone_spec l (by omega)]
  rfl
theorem putint_spec (v : Int) (h0 : -9223372036854775808 ≤ v) (h1 : v ≤ 9223372036854775807) (l : List Int) (h : l.length + 10 ≤ 140737488355328) : Ev (fun k => vint_PutInt.f k l v) (l ++ Vint.enc (Vint.zz v)) := by
  have := put_spec (Vint.zz v) (Vint.zz_bound h0 h1) l h
  unfold vint_PutInt.f
  rw [Vint.zz_eq v h0 h1]
  exact Ev.bind this (Ev.now _)
theorem dec_take (l : List Int) : ∀ (v i m : Nat), i + m = 10 → Vint.dec v i (l.take m) = Vint.dec v i l := by
  induction l with
  | nil => intro v i m _; rw [List.take_nil]
  | cons x r ih =>
    intro v i m h
    cases m with
    | zero => rw [List.take_zero, Vint.dec, Vint.dec, if_pos (by omega)]
    | succ m =>
      rw [List.take_succ_cons, Vint.dec, Vint.dec, ih _ (i + 1) m (by omega)]

/-! ### The reference -/
theorem ref_end (l : List Int) (v i : Int) (h : ¬ (i < (l.length : Int) ∧ i < 10)) : Ev (fun k => ferruleref4_Get.l0 k l v i) (0, 0, false) := by
  refine Ev.step (f := fun k => ferruleref4_Get.j1 k l v i false) (fun k => ?_) (Ev.step (f := fun _ => some (0, 0, false)) (fun k => ?_) (Ev.now _))
  · simp only [ferruleref4_Get.l0]
    by_cases c : i < (l.length : Int)
    · rw [if_pos c, show decide (i < 10) = false from decide_eq_false (by omega)]
    · rw [if_neg c]
  · simp only [ferruleref4_Get.j1]
    rw [if_neg (by decide)]
theorem ref_sum (v i : Nat) (x : Int) (_h0 : 0 ≤ x) (_h1 : x ≤ 255) (hv : v < 2 ^ (7 * i)) (hok : i ≤ 8 ∨ (i = 9 ∧ x % 128 ≤ 1)) :
    IntKind.u64.wrap ((v : Int) + (shl .u64 (x % 128) ((7 * i : Nat) : Int))) = ((v + (x % 128).toNat * 2 ^ (7 * i) : Nat) : Int) := by
  have hd : (x % 128).toNat * 2 ^ (7 * i) + 2 ^ (7 * i) ≤ 18446744073709551616 := by
    rw [← Nat.succ_mul]
    rcases hok with h | ⟨h, h2⟩
    · have h5 : 2 ^ (7 * i) ≤ 2 ^ (7 * 8) := Nat.pow_le_pow_right (by decide) (by omega)
      have h6 : ((x % 128).toNat + 1) * 2 ^ (7 * i) ≤ 128 * 2 ^ (7 * 8) := Nat.mul_le_mul (by omega) h5
      have h4 : (128 : Nat) * 2 ^ (7 * 8) ≤ 18446744073709551616 := by decide
      exact Nat.le_trans h6 h4
    · subst h
      have h6 : ((x % 128).toNat + 1) * 2 ^ (7 * 9) ≤ 2 * 2 ^ (7 * 9) := Nat.mul_le_mul_right _ (by omega)
      have h4 : (2 : Nat) * 2 ^ (7 * 9) ≤ 18446744073709551616 := by decide
      exact Nat.le_trans h6 h4
  have hs : shl .u64 (x % 128) ((7 * i : Nat) : Int) = (((x % 128).toNat * 2 ^ (7 * i) : Nat) : Int) := by
    unfold shl
    have e1 : x % 128 = (((x % 128).toNat : Nat) : Int) := by omega
    have e2 : min (((7 * i : Nat) : Int)).toNat IntKind.u64.bits = 7 * i := by
      rw [Int.toNat_natCast]; exact Nat.min_eq_left (by show 7 * i ≤ 64; omega)
    have e3 : (((x % 128).toNat : Nat) : Int) * 2 ^ (7 * i) = (((x % 128).toNat * 2 ^ (7 * i) : Nat) : Int) := by
      rw [Int.natCast_mul, Int.natCast_pow]; rfl
    rw [e2, e1, e3, Vint.wrap_u64, ← e1]
    omega
  rw [hs, Vint.wrap_u64]
  omega
theorem ref_j2 (l : List Int) (v i c : Int) : Ev (fun k => ferruleref4_Get.j2 k l v i c true) (0, 0, false) := by
  refine Ev.step (f := fun _ => some (0, 0, false)) (fun k => ?_) (Ev.now _)
  simp only [ferruleref4_Get.j2]
  rw [if_pos trivial]
def RefOk (o : Option (Nat × Nat)) (r : Int × Int × Bool) : Prop := match o with
  | some (V, N) => r = ((V : Int), (N : Int), true)
  | none => r.2.2 = false
theorem ref_loop (l : List Int) (hb : ∀ x ∈ l, 0 ≤ x ∧ x ≤ 255) (d : Nat) : ∀ (i v : Nat), i + d = 10 → v < 2 ^ (7 * i) →
    ∃ r, Ev (fun k => ferruleref4_Get.l0 k l (v : Int) (i : Int)) r ∧ RefOk (Vint.dec v i (l.drop i)) r := by
  induction d with
  | zero =>
    intro i v hd hv
    refine ⟨_, ref_end l v i (by omega), ?_⟩
    cases h : l.drop i with
    | nil => rfl
    | cons x r => rw [Vint.dec, if_pos (by omega)]; rfl
  | succ d ih =>
    intro i v hd hv
    by_cases hlt : i < l.length
    · obtain ⟨x, hx, hrd⟩ : ∃ x, l.drop i = x :: l.drop (i + 1) ∧ rd l (i : Int) = x := ⟨l[i], List.drop_eq_getElem_cons hlt, by unfold rd; rw [Int.toNat_natCast]; simp [hlt]⟩
      obtain ⟨h0, h1⟩ := hb x (by have : x ∈ l.drop i := by rw [hx]; simp
                                  exact List.mem_of_mem_drop this)
      have w1 : IntKind.u64.wrap (wrap64 (7 * (i : Int))) = ((7 * i : Nat) : Int) := by rw [Vint.wrap_u64]; unfold wrap64; omega
      have w2 : wrap64 ((i : Int) + 1) = ((i + 1 : Nat) : Int) := by unfold wrap64; omega
      have wc : IntKind.u64.wrap (Int.tmod x 128) = x % 128 := by rw [Int.tmod_eq_emod_of_nonneg h0, Vint.wrap_u64]; omega
      have hJ : ∀ r, Ev (fun k => ferruleref4_Get.j2 k l (v : Int) (i : Int) (x % 128) (decide ((i : Int) = 9 ∧ x % 128 > 1))) r → Ev (fun k => ferruleref4_Get.l0 k l (v : Int) (i : Int)) r := by
        intro r hr
        refine Ev.step (f := fun k => ferruleref4_Get.j1 k l (v : Int) (i : Int) true) (fun k => ?_) (Ev.step (f := fun k => ferruleref4_Get.j2 k l (v : Int) (i : Int) (x % 128) (decide ((i : Int) = 9 ∧ x % 128 > 1))) (fun k => ?_) hr)
        · simp only [ferruleref4_Get.l0]
          rw [if_pos (by omega), show decide ((i : Int) < 10) = true from decide_eq_true (by omega)]
        · simp only [ferruleref4_Get.j1]
          rw [if_pos trivial, if_pos (by omega), if_pos (by omega), hrd, wc]
          by_cases e : (i : Int) = 9
          · rw [if_pos e]; simp [e]
          · rw [if_neg e]; simp [e]
      rw [hx, Vint.dec, if_neg (by omega : ¬ i ≥ 10)]
      by_cases cb : (i : Int) = 9 ∧ x % 128 > 1
      · refine ⟨(0, 0, false), hJ _ (by rw [decide_eq_true cb]; exact ref_j2 _ _ _ _), ?_⟩
        by_cases c : x ≥ 128
        · rw [if_pos c]
          cases h : l.drop (i + 1) with
          | nil => rfl
          | cons y r => rw [Vint.dec, if_pos (by omega)]; rfl
        · rw [if_neg c, if_pos (by omega)]; rfl
      · have hok : i ≤ 8 ∨ (i = 9 ∧ x % 128 ≤ 1) := by omega
        have hs := ref_sum v i x h0 h1 hv hok
        rw [decide_eq_false cb] at hJ
        by_cases c : x ≥ 128
        · rw [if_pos c]
          have hn : v + (x % 128).toNat * 2 ^ (7 * i) < 2 ^ (7 * (i + 1)) := by
            rw [show 7 * (i + 1) = 7 * i + 7 by omega, Nat.pow_add]
            have : (x % 128).toNat * 2 ^ (7 * i) ≤ 127 * 2 ^ (7 * i) := Nat.mul_le_mul_right _ (by omega)
            omega
          obtain ⟨r, hr, hk⟩ := ih (i + 1) _ (by omega) hn
          refine ⟨r, hJ _ (Ev.step (f := fun k => ferruleref4_Get.l0 k l ((v + (x % 128).toNat * 2 ^ (7 * i) : Nat) : Int) ((i + 1 : Nat) : Int)) (fun k => ?_) hr), hk⟩
          simp only [ferruleref4_Get.j2]
          rw [if_neg (by decide), w1, if_pos (by omega), if_pos (by omega), if_pos (by omega), hrd, if_neg (by omega), hs, w2]
        · rw [if_neg c]
          have hxm : x % 128 = x := by omega
          have hE : Ev (fun k => ferruleref4_Get.j2 k l (v : Int) (i : Int) (x % 128) false) (if x > 0 then (((v + x.toNat * 2 ^ (7 * i) : Nat) : Int), ((i + 1 : Nat) : Int), true) else (((v + x.toNat * 2 ^ (7 * i) : Nat) : Int), ((i + 1 : Nat) : Int), ((i : Int) == 0))) := by
            refine Ev.step (f := fun _ => some _) (fun k => ?_) (Ev.now _)
            simp only [ferruleref4_Get.j2]
            rw [if_neg (by decide), w1, if_pos (by omega), if_pos (by omega), if_pos (by omega), hrd, if_pos (by omega), hs, w2, hxm]
            split <;> rfl
          refine ⟨_, hJ _ hE, ?_⟩
          by_cases c2 : (x = 0 ∧ i > 0) ∨ (i = 9 ∧ x > 1)
          · rw [if_pos c2, if_neg (by omega)]
            show ((i : Int) == 0) = false
            simp; omega
          · rw [if_neg c2]
            by_cases c3 : x > 0
            · rw [if_pos c3]; rfl
            · rw [if_neg c3]
              have : ((i : Int) == 0) = true := by simp; omega
              rw [this]; rfl
    · refine ⟨_, ref_end l v i (by omega), ?_⟩
      rw [List.drop_eq_nil_of_le (by omega)]; rfl
theorem ref_int (V : Nat) (h : V < 18446744073709551616) : ferruleref4_Int.f (V : Int) = some (Vint.unzz V) := by
  have e1 : Int.tmod (V : Int) 2 = ((V % 2 : Nat) : Int) := by rw [Int.tmod_eq_emod_of_nonneg (by omega)]; omega
  have e2 : IntKind.u64.wrap (Int.tdiv (V : Int) 2) = ((V / 2 : Nat) : Int) := by rw [Int.tdiv_eq_ediv_of_nonneg (by omega), Vint.wrap_u64]; omega
  have e3 : wrap64 ((V / 2 : Nat) : Int) = ((V / 2 : Nat) : Int) := by unfold wrap64; omega
  have e4 : wrap64 (-((V / 2 : Nat) : Int)) = -((V / 2 : Nat) : Int) := by unfold wrap64; omega
  have e5 : wrap64 (-((V / 2 : Nat) : Int) - 1) = -((V / 2 : Nat) : Int) - 1 := by unfold wrap64; omega
  unfold ferruleref4_Int.f Vint.unzz
  rw [e1, e2, e3, e4, e5]
  by_cases c : V % 2 = 0
  · rw [if_pos (by omega), if_pos c]
  · rw [if_neg (by omega), if_neg c]

/-! ### The law -/
theorem VintGets : ferrulelaw4_VintGets.Pure := by
  intro l h1 h2 hw
  have wf : ∀ x : Int, (Lit.int .u8 x).wf = true → 0 ≤ x ∧ x ≤ 255 := fun x h => by simpa [Lit.wf, IntKind.min, IntKind.max, IntKind.signed, IntKind.bits] using h
  have hb : ∀ x ∈ l, 0 ≤ x ∧ x ≤ 255 := fun x hx => wf x (hw x hx)
  have hA : Ev (fun k => ferrulelaw4_awake.f k) true := Ev.of (fun k => ferrulelaw4_awake.mono k) (k := 60) (by decide +kernel)
  obtain ⟨r, hr, hk⟩ := ref_loop l hb 10 0 0 rfl (by decide)
  have hG := get_spec l hb
  have hI := getint_spec l hb
  rw [dec_take l 0 0 10 rfl] at hG hI
  rw [List.drop_zero] at hk
  unfold ferrulelaw4_VintGets.f
  refine Ev.rounds (Ev.bind hA ?_)
  refine Ev.congr (fun k => if_pos rfl) ?_
  refine Ev.bind hG (Ev.bind hI (Ev.bind (g := fun k => ferruleref4_Get.f k l) hr ?_))
  cases h : Vint.dec 0 0 l with
  | none =>
    rw [h] at hk
    have hk' : r.2.2 = false := hk
    refine Ev.congr (f := fun _ => some true) (fun k => ?_) (Ev.now _)
    rw [if_neg (by rw [hk']; decide)]
    rfl
  | some p =>
    obtain ⟨V, N⟩ := p
    rw [h] at hk
    have hk' : r = ((V : Int), (N : Int), true) := hk
    subst hk'
    have hV := dec_small hb h
    obtain ⟨u, m, e1, e2, e3, e4, -⟩ := Vint.dec_back l 0 0 V N hb h
    obtain rfl : V = u := by rw [e1]; simp
    obtain rfl : N = m := by omega
    have hP := put_spec V hV.1 [] (by decide)
    rw [List.nil_append] at hP
    refine Ev.congr (fun k => if_pos rfl) (Ev.congr (fun k => if_pos rfl) (Ev.congr (fun k => if_pos rfl) (Ev.congr (fun k => if_pos rfl) (Ev.congr (fun k => if_pos rfl) (Ev.congr (fun k => if_pos rfl) ?_)))))
    simp only [getR, getIR]
    refine Ev.bind (g := fun _ => ferruleref4_Int.f (V : Int)) (a := Vint.unzz V) ⟨0, fun _ _ => ref_int V hV.1⟩ ?_
    refine Ev.congr (fun k => if_pos rfl) (Ev.bind hP ?_)
    refine Ev.congr (f := fun _ => some true) (fun k => ?_) (Ev.now _)
    show (if 0 ≤ (N : Int) then (if (N : Int) ≤ (l.length : Int) then some ((strOfNums (Vint.enc V)).toList == (strOfNums (l.take (N : Int).toNat)).toList) else none) else none) = some true
    rw [if_pos (by omega), if_pos (by omega), Int.toNat_natCast, e4]
    simp

end Go.Proofs.Ytdgjcgofghacjaa.Pure
