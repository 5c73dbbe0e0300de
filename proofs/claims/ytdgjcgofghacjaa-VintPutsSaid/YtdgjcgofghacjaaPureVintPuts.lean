/- VintPuts: numbers of variable length, put and read again. Conditions: none beyond the row's own. -/
import Derived.Test.YtdgjcgofghacjaaPVintPutsx3
import Derived.Test.YtdgjcgofghacjaaVintMath
namespace Go.Proofs.Ytdgjcgofghacjaa.Pure
open Go.RowKit Go.Proofs.Ytdgjcgofghacjaa.PVintPuts Go.Proofs.YtdgjcgofghacjaaW.PrintWords Go.Proofs.YtdgjcgofghacjaaW.PrintLast Go.Proofs.YtdgjcgofghacjaaW.PrintMore Go.Proofs.Ytdgjcgofghacjaa

/-! ### Get -/
def getR (o : Option (Nat × Nat)) : Int × Int × Int := match o with
  | some (V, N) => ((V : Int), (N : Int), 0)
  | none => (0, 0, 11)
theorem get_or (v i : Nat) (x : Int) (h0 : 0 ≤ x) (h1 : x ≤ 255) (hv : v < 2 ^ (7 * i)) (hok : i ≤ 8 ∨ (i = 9 ∧ x % 128 ≤ 1)) :
    Go.bits .or .u64 (v : Int) (shl .u64 (IntKind.u64.wrap (Go.bits .and .u8 x 127)) ((7 * i : Nat) : Int)) = ((v + (x % 128).toNat * 2 ^ (7 * i) : Nat) : Int) ∧ v + (x % 128).toNat * 2 ^ (7 * i) < 2 ^ (7 * (i + 1)) := by
  have hd : (x % 128).toNat * 2 ^ (7 * i) + 2 ^ (7 * i) ≤ 18446744073709551616 := by
    rw [← Nat.succ_mul]
    rcases hok with h | ⟨h, h2⟩
    · have h5 : 2 ^ (7 * i) ≤ 2 ^ (7 * 8) := Nat.pow_le_pow_right (by decide) (by omega)
      have h6 : ((x % 128).toNat + 1) * 2 ^ (7 * i) ≤ 128 * 2 ^ (7 * 8) := Nat.mul_le_mul (by omega) h5
      have h4 : (128 : Nat) * 2 ^ (7 * 8) ≤ 18446744073709551616 := by decide
      exact Nat.le_trans h6 h4
    · subst h
      have h6 : ((x % 128).toNat + 1) * 2 ^ (7 * 9) ≤ 2 * 2 ^ (7 * 9) := Nat.mul_le_mul_right _ (by omega)
      have h4 : (2 : Nat) * 2 ^ (7 * 9) ≤ 18446744073709551616 := by decide
      exact Nat.le_trans h6 h4
  constructor
  · have hs : shl .u64 (IntKind.u64.wrap (Go.bits .and .u8 x 127)) ((7 * i : Nat) : Int) = (((x % 128).toNat * 2 ^ (7 * i) : Nat) : Int) := by
      unfold shl
      have e1 : IntKind.u64.wrap (Go.bits .and .u8 x 127) = (((x % 128).toNat : Nat) : Int) := by
        rw [Vint.and_byte x h0 (by omega), Vint.wrap_u64]; omega
      have e2 : min (((7 * i : Nat) : Int)).toNat IntKind.u64.bits = 7 * i := by
        rw [Int.toNat_natCast]; exact Nat.min_eq_left (by show 7 * i ≤ 64; omega)
      have e3 : (((x % 128).toNat : Nat) : Int) * 2 ^ (7 * i) = (((x % 128).toNat * 2 ^ (7 * i) : Nat) : Int) := by
        rw [Int.natCast_mul, Int.natCast_pow]; rfl
      rw [e1, e2, e3, Vint.wrap_u64]
      omega
    rw [hs]
    exact Vint.or_join v _ _ hv (by omega)
  · rw [show 7 * (i + 1) = 7 * i + 7 by omega, Nat.pow_add]
    have : (x % 128).toNat * 2 ^ (7 * i) ≤ 127 * 2 ^ (7 * i) := Nat.mul_le_mul_right _ (by omega)
    omega
theorem get_end (L : List Int) (v i : Int) (h : ¬ i < (L.length : Int)) : Ev (fun k => vint_Get.l0 k v L (L.length : Int) i) (0, 0, 11) := by
  refine Ev.step (f := fun _ => some (0, 0, 11)) (fun k => ?_) (Ev.now _)
  simp only [vint_Get.l0]
  rw [if_neg h]
theorem get_j1 (v i x : Int) (b : Bool) : Ev (fun k => vint_Get.j1 k v i x b) (if b = true then (0, 0, 11) else if i = 9 then (if x > 1 then (0, 0, 11) else (v, wrap64 (i + 1), 0)) else (v, wrap64 (i + 1), 0)) := by
  refine Ev.step (f := fun _ => some _) (fun k => ?_) (Ev.now _)
  simp only [vint_Get.j1]
  repeat' split
  all_goals rfl
theorem get_loop (L : List Int) (hL : L.length ≤ 10) (hb : ∀ x ∈ L, 0 ≤ x ∧ x ≤ 255) (d : Nat) : ∀ (i v : Nat), L.length - i = d → i ≤ L.length → v < 2 ^ (7 * i) →
    Ev (fun k => vint_Get.l0 k (v : Int) L (L.length : Int) (i : Int)) (getR (Vint.dec v i (L.drop i))) := by
  induction d with
  | zero =>
    intro i v hd hi hv
    obtain rfl : i = L.length := by omega
    rw [List.drop_length]
    exact get_end L v _ (by omega)
  | succ d ih =>
    intro i v hd hi hv
    have hlt : i < L.length := by omega
    obtain ⟨x, hx, hrd⟩ : ∃ x, L.drop i = x :: L.drop (i + 1) ∧ rd L (i : Int) = x := ⟨L[i], List.drop_eq_getElem_cons hlt, by unfold rd; rw [Int.toNat_natCast]; simp [hlt]⟩
    obtain ⟨h0, h1⟩ := hb x (by have : x ∈ L.drop i := by rw [hx]; simp
                                exact List.mem_of_mem_drop this)
    have w1 : wrap64 (7 * (i : Int)) = ((7 * i : Nat) : Int) := by unfold wrap64; omega
    have w2 : wrap64 ((i : Int) + 1) = ((i + 1 : Nat) : Int) := by unfold wrap64; omega
    have hp : (0 : Int) ≤ wrap64 (7 * (i : Int)) := by rw [w1]; omega
    rw [hx, Vint.dec, if_neg (by omega : ¬ i ≥ 10)]
    by_cases c : x ≥ 128
    · rw [if_pos c]
      by_cases h9 : i = 9
      · rw [List.drop_eq_nil_of_le (by omega)]
        refine Ev.step (f := fun k => vint_Get.l0 k (Go.bits .or .u64 (v : Int) (shl .u64 (IntKind.u64.wrap (Go.bits .and .u8 x 127)) (wrap64 (7 * (i : Int))))) L (L.length : Int) (wrap64 ((i : Int) + 1))) (fun k => ?_) (get_end L _ _ (by rw [w2]; omega))
        simp only [vint_Get.l0]
        rw [if_pos (by omega), if_pos (by omega), if_pos (by omega), if_pos hp, hrd, if_pos c]
      · have ho := get_or v i x h0 h1 hv (Or.inl (by omega))
        refine Ev.step (f := fun k => vint_Get.l0 k ((v + (x % 128).toNat * 2 ^ (7 * i) : Nat) : Int) L (L.length : Int) ((i + 1 : Nat) : Int)) (fun k => ?_) (ih (i + 1) _ (by omega) (by omega) ho.2)
        simp only [vint_Get.l0]
        rw [if_pos (by omega), if_pos (by omega), if_pos (by omega), if_pos hp, hrd, if_pos c, w1, ho.1, w2]
    · rw [if_neg c]
      have hxm : x % 128 = x := by omega
      have hJ : Ev (fun k => vint_Get.l0 k (v : Int) L (L.length : Int) (i : Int)) (if (decide (x = 0 ∧ (i : Int) > 0)) = true then (0, 0, 11) else if (i : Int) = 9 then (if x > 1 then (0, 0, 11) else (Go.bits .or .u64 (v : Int) (shl .u64 (IntKind.u64.wrap (Go.bits .and .u8 x 127)) ((7 * i : Nat) : Int)), wrap64 ((i : Int) + 1), 0)) else (Go.bits .or .u64 (v : Int) (shl .u64 (IntKind.u64.wrap (Go.bits .and .u8 x 127)) ((7 * i : Nat) : Int)), wrap64 ((i : Int) + 1), 0)) := by
        refine Ev.step (f := fun k => vint_Get.j1 k (Go.bits .or .u64 (v : Int) (shl .u64 (IntKind.u64.wrap (Go.bits .and .u8 x 127)) ((7 * i : Nat) : Int))) (i : Int) x (decide (x = 0 ∧ (i : Int) > 0))) (fun k => ?_) (get_j1 _ _ _ _)
        simp only [vint_Get.l0]
        rw [if_pos (by omega), if_pos (by omega), if_pos (by omega), if_pos hp, hrd, if_neg c, w1]
        by_cases hz : x = 0
        · rw [if_pos hz]; simp [hz]
        · rw [if_neg hz]; simp [hz]
      by_cases c2 : (x = 0 ∧ i > 0) ∨ (i = 9 ∧ x > 1)
      · rw [if_pos c2]
        show Ev _ (0, 0, 11)
        rcases c2 with ⟨e, e2⟩ | ⟨e, e2⟩
        · rw [if_pos (decide_eq_true ⟨e, by omega⟩)] at hJ; exact hJ
        · rw [if_neg (by rw [decide_eq_true_eq]; omega), if_pos (by omega), if_pos e2] at hJ; exact hJ
      · rw [if_neg c2]
        have ho := get_or v i x h0 h1 hv (by omega)
        rw [hxm] at ho
        rw [if_neg (by rw [decide_eq_true_eq]; omega), ho.1, w2] at hJ
        show Ev _ (((v + x.toNat * 2 ^ (7 * i) : Nat) : Int), ((i + 1 : Nat) : Int), 0)
        by_cases e : (i : Int) = 9
        · rw [if_pos e, if_neg (by omega)] at hJ; exact hJ
        · rw [if_neg e] at hJ; exact hJ
theorem get_spec (l : List Int) (hb : ∀ x ∈ l, 0 ≤ x ∧ x ≤ 255) : Ev (fun k => vint_Get.f k l) (getR (Vint.dec 0 0 (l.take 10))) := by
  have hm : (mn (l.length : Int) 10) = ((min l.length 10 : Nat) : Int) := by unfold mn; split <;> omega
  have ht : l.take (mn (l.length : Int) 10).toNat = l.take 10 := by
    rw [hm, Int.toNat_natCast]
    rcases Nat.le_total l.length 10 with h | h
    · rw [Nat.min_eq_left h, List.take_length, List.take_of_length_le h]
    · rw [Nat.min_eq_right h]
  refine Ev.congr (f := fun k => vint_Get.l0 k ((0 : Nat) : Int) (l.take 10) ((l.take 10).length : Int) ((0 : Nat) : Int)) (fun k => ?_) ?_
  · unfold vint_Get.f
    rw [if_pos (by rw [hm]; omega), if_pos (by rw [hm]; omega), ht]
    rfl
  · have := get_loop (l.take 10) (by simp; omega) (fun x hx => hb x (List.mem_of_mem_take hx)) _ 0 0 rfl (by omega) (by decide)
    rwa [List.drop_zero] at this
theorem dec_small {V N : Nat} {l : List Int} (hb : ∀ x ∈ l, 0 ≤ x ∧ x ≤ 255) (h : Vint.dec 0 0 l = some (V, N)) : V < 18446744073709551616 ∧ N ≤ 10 :=
  Vint.dec_bound l 0 0 V N hb (by decide) (by decide) h
def getIR (o : Option (Nat × Nat)) : Int × Int × Int := match o with
  | some (V, N) => (Vint.unzz V, (N : Int), 0)
  | none => (0, 0, 11)
theorem getint_spec (l : List Int) (hb : ∀ x ∈ l, 0 ≤ x ∧ x ≤ 255) : Ev (fun k => vint_GetInt.f k l) (getIR (Vint.dec 0 0 (l.take 10))) := by
  unfold vint_GetInt.f
  refine Ev.bind (get_spec l hb) ?_
  cases h : Vint.dec 0 0 (l.take 10) with
  | none =>
    refine Ev.congr (f := fun _ => some (0, 0, 11)) (fun k => ?_) (Ev.now _)
    simp only [getR]
    have := Vint.unzz_eq 0 (by decide)
    rw [show ((0 : Nat) : Int) = 0 from rfl] at this
    rw [this]; rfl
  | some p =>
    obtain ⟨V, N⟩ := p
    have hV := dec_small (fun x hx => hb x (List.mem_of_mem_take hx)) h
    refine Ev.congr (f := fun _ => some (Vint.unzz V, (N : Int), 0)) (fun k => ?_) (Ev.now _)
    simp only [getR]
    rw [Vint.unzz_eq V hV.1]

/-! ### Put -/
theorem clone_spec (l : List Int) (h : l.length < 140737488355328) : slices_Clone_byte_byte.f l = some l := by
  unfold slices_Clone_byte_byte.f
  simp only [Option.bind_some, List.length_nil, Nat.zero_add, List.nil_append]
  rw [if_pos h]
theorem put_loop (n : Nat) : ∀ l : List Int, l.length + (Vint.enc n).length ≤ 140737488355328 → Ev (fun k => vint_Put.l0 k l (n : Int)) (l ++ Vint.enc n) := by
  induction n using Nat.strongRecOn with
  | _ n ih =>
    intro l h
    by_cases c : n < 128
    · rw [Vint.enc_lt c] at h ⊢
      refine Ev.step (f := fun _ => some (l ++ [(n : Int)])) (fun k => ?_) (Ev.now _)
      simp only [vint_Put.l0]
      simp only [List.length_cons, List.length_nil] at h
      rw [if_neg (by omega), if_pos (by omega), Int.emod_eq_of_lt (by omega) (by omega)]
    · rw [Vint.enc_ge c] at h ⊢
      have hp := Vint.enc_pos (n / 128)
      simp only [List.length_cons] at h
      have e1 : Go.bits .or .u8 ((n : Int) % 256) 128 = ((n % 128 + 128 : Nat) : Int) := by
        rw [Vint.or_byte _ (by omega) (by omega)]; omega
      have e2 : (n : Int) / 128 = ((n / 128 : Nat) : Int) := by omega
      have := ih (n / 128) (by omega) (l ++ [((n % 128 + 128 : Nat) : Int)]) (by simp; omega)
      rw [List.append_assoc, List.singleton_append] at this
      refine Ev.step (f := fun k => vint_Put.l0 k (l ++ [((n % 128 + 128 : Nat) : Int)]) ((n / 128 : Nat) : Int)) (fun k => ?_) this
      simp only [vint_Put.l0]
      rw [if_pos (by omega), if_pos (by omega), e1, e2]
theorem put_spec (n : Nat) (hn : n < 18446744073709551616) (l : List Int) (h : l.length + 10 ≤ 140737488355328) : Ev (fun k => vint_Put.f k l (n : Int)) (l ++ Vint.enc n) := by
  have := Vint.enc_len64 hn
  refine Ev.congr (f := fun k => vint_Put.l0 k l (n : Int)) (fun k => ?_) (put_loop n l (by omega))
  unfold vint_Put.f
  rw [clone_spec l (by omega)]
  rfl
theorem putint_spec (v : Int) (h0 : -9223372036854775808 ≤ v) (h1 : v ≤ 9223372036854775807) (l : List Int) (h : l.length + 10 ≤ 140737488355328) : Ev (fun k => vint_PutInt.f k l v) (l ++ Vint.enc (Vint.zz v)) := by
  have := put_spec (Vint.zz v) (Vint.zz_bound h0 h1) l h
  unfold vint_PutInt.f
  rw [Vint.zz_eq v h0 h1]
  exact Ev.bind this (Ev.now _)
theorem dec_take (l : List Int) : ∀ (v i m : Nat), i + m = 10 → Vint.dec v i (l.take m) = Vint.dec v i l := by
  induction l with
  | nil => intro v i m _; rw [List.take_nil]
  | cons x r ih =>
    intro v i m h
    cases m with
    | zero => rw [List.take_zero, Vint.dec, Vint.dec, if_pos (by omega)]
    | succ m =>
      rw [List.take_succ_cons, Vint.dec, Vint.dec, ih _ (i + 1) m (by omega)]

/-! ### Len -/
set_option maxRecDepth 100000 in
theorem tab_all : (List.range 256).all (fun x => decide (bt (⟨#[0, 1, 2, 2, 3, 3, 3, 3, 4, 4, 4, 4, 4, 4, 4, 4, 5, 5, 5, 5, 5, 5, 5, 5, 5, 5, 5, 5, 5, 5, 5, 5, 6, 6, 6, 6, 6, 6, 6, 6, 6, 6, 6, 6, 6, 6, 6, 6, 6, 6, 6, 6, 6, 6, 6, 6, 6, 6, 6, 6, 6, 6, 6, 6, 7, 7, 7, 7, 7, 7, 7, 7, 7, 7, 7, 7, 7, 7, 7, 7, 7, 7, 7, 7, 7, 7, 7, 7, 7, 7, 7, 7, 7, 7, 7, 7, 7, 7, 7, 7, 7, 7, 7, 7, 7, 7, 7, 7, 7, 7, 7, 7, 7, 7, 7, 7, 7, 7, 7, 7, 7, 7, 7, 7, 7, 7, 7, 7, 8, 8, 8, 8, 8, 8, 8, 8, 8, 8, 8, 8, 8, 8, 8, 8, 8, 8, 8, 8, 8, 8, 8, 8, 8, 8, 8, 8, 8, 8, 8, 8, 8, 8, 8, 8, 8, 8, 8, 8, 8, 8, 8, 8, 8, 8, 8, 8, 8, 8, 8, 8, 8, 8, 8, 8, 8, 8, 8, 8, 8, 8, 8, 8, 8, 8, 8, 8, 8, 8, 8, 8, 8, 8, 8, 8, 8, 8, 8, 8, 8, 8, 8, 8, 8, 8, 8, 8, 8, 8, 8, 8, 8, 8, 8, 8, 8, 8, 8, 8, 8, 8, 8, 8, 8, 8, 8, 8, 8, 8, 8, 8, 8, 8, 8, 8, 8, 8, 8, 8, 8, 8, 8, 8, 8, 8, 8, 8]⟩ : ByteArray) (x : Int) = ((Vint.bl x : Nat) : Int))) = true := by decide +kernel
set_option maxRecDepth 100000 in
theorem tab (x : Nat) (h : x < 256) : bt (⟨#[0, 1, 2, 2, 3, 3, 3, 3, 4, 4, 4, 4, 4, 4, 4, 4, 5, 5, 5, 5, 5, 5, 5, 5, 5, 5, 5, 5, 5, 5, 5, 5, 6, 6, 6, 6, 6, 6, 6, 6, 6, 6, 6, 6, 6, 6, 6, 6, 6, 6, 6, 6, 6, 6, 6, 6, 6, 6, 6, 6, 6, 6, 6, 6, 7, 7, 7, 7, 7, 7, 7, 7, 7, 7, 7, 7, 7, 7, 7, 7, 7, 7, 7, 7, 7, 7, 7, 7, 7, 7, 7, 7, 7, 7, 7, 7, 7, 7, 7, 7, 7, 7, 7, 7, 7, 7, 7, 7, 7, 7, 7, 7, 7, 7, 7, 7, 7, 7, 7, 7, 7, 7, 7, 7, 7, 7, 7, 7, 8, 8, 8, 8, 8, 8, 8, 8, 8, 8, 8, 8, 8, 8, 8, 8, 8, 8, 8, 8, 8, 8, 8, 8, 8, 8, 8, 8, 8, 8, 8, 8, 8, 8, 8, 8, 8, 8, 8, 8, 8, 8, 8, 8, 8, 8, 8, 8, 8, 8, 8, 8, 8, 8, 8, 8, 8, 8, 8, 8, 8, 8, 8, 8, 8, 8, 8, 8, 8, 8, 8, 8, 8, 8, 8, 8, 8, 8, 8, 8, 8, 8, 8, 8, 8, 8, 8, 8, 8, 8, 8, 8, 8, 8, 8, 8, 8, 8, 8, 8, 8, 8, 8, 8, 8, 8, 8, 8, 8, 8, 8, 8, 8, 8, 8, 8, 8, 8, 8, 8, 8, 8, 8, 8, 8, 8, 8, 8]⟩ : ByteArray) (x : Int) = ((Vint.bl x : Nat) : Int) :=
  of_decide_eq_true (List.all_eq_true.1 tab_all x (List.mem_range.2 h))
theorem w_small (y : Int) (h0 : 0 ≤ y) (h1 : y ≤ 1000) : wrap64 y = y := by unfold wrap64; omega
theorem tab8 (x : Nat) (h : x < 256) : Vint.bl x ≤ 8 := Vint.bl_small (k := 8) (by rw [show (2 : Nat) ^ 8 = 256 from by decide]; omega)
set_option maxRecDepth 100000 in
theorem len_j0 (n s : Nat) (hn : n < 4294967296) (hs : s ≤ 32) : Ev (fun k => bits_Len64.j0 k (n : Int) (s : Int)) ((s + Vint.bl n : Nat) : Int) := by
  obtain ⟨T, hT, tabT⟩ : ∃ T : ByteArray, (⟨#[0, 1, 2, 2, 3, 3, 3, 3, 4, 4, 4, 4, 4, 4, 4, 4, 5, 5, 5, 5, 5, 5, 5, 5, 5, 5, 5, 5, 5, 5, 5, 5, 6, 6, 6, 6, 6, 6, 6, 6, 6, 6, 6, 6, 6, 6, 6, 6, 6, 6, 6, 6, 6, 6, 6, 6, 6, 6, 6, 6, 6, 6, 6, 6, 7, 7, 7, 7, 7, 7, 7, 7, 7, 7, 7, 7, 7, 7, 7, 7, 7, 7, 7, 7, 7, 7, 7, 7, 7, 7, 7, 7, 7, 7, 7, 7, 7, 7, 7, 7, 7, 7, 7, 7, 7, 7, 7, 7, 7, 7, 7, 7, 7, 7, 7, 7, 7, 7, 7, 7, 7, 7, 7, 7, 7, 7, 7, 7, 8, 8, 8, 8, 8, 8, 8, 8, 8, 8, 8, 8, 8, 8, 8, 8, 8, 8, 8, 8, 8, 8, 8, 8, 8, 8, 8, 8, 8, 8, 8, 8, 8, 8, 8, 8, 8, 8, 8, 8, 8, 8, 8, 8, 8, 8, 8, 8, 8, 8, 8, 8, 8, 8, 8, 8, 8, 8, 8, 8, 8, 8, 8, 8, 8, 8, 8, 8, 8, 8, 8, 8, 8, 8, 8, 8, 8, 8, 8, 8, 8, 8, 8, 8, 8, 8, 8, 8, 8, 8, 8, 8, 8, 8, 8, 8, 8, 8, 8, 8, 8, 8, 8, 8, 8, 8, 8, 8, 8, 8, 8, 8, 8, 8, 8, 8, 8, 8, 8, 8, 8, 8, 8, 8, 8, 8, 8, 8]⟩ : ByteArray) = T ∧ ∀ x : Nat, x < 256 → bt T (x : Int) = ((Vint.bl x : Nat) : Int) := ⟨_, rfl, tab⟩
  refine Ev.step (f := fun _ => some _) (fun k => ?_) (Ev.now _)
  rw [bits_Len64.j0, hT]
  clear hT
  by_cases c1 : (n : Int) ≥ 65536
  · rw [if_pos c1]
    by_cases c2 : (n : Int) / 65536 ≥ 256
    · have e : (n : Int) / 65536 / 256 % 256 = ((n / 16777216 : Nat) : Int) := by omega
      have hl : n / 16777216 < 256 := by omega
      have h24 : Vint.bl n = 24 + Vint.bl (n / 16777216) := by
        have h_ := Vint.bl_div n 24 (by rw [show (2 : Nat) ^ 24 = 16777216 from by decide]; omega)
        rwa [show (2 : Nat) ^ 24 = 16777216 from by decide] at h_
      have h8 := tab8 _ hl
      rw [if_pos c2, e, if_pos (by omega), if_pos (by omega), tabT _ hl, h24]
      rw [w_small ((s : Int) + 16) (by omega) (by omega), w_small ((s : Int) + 16 + 8) (by omega) (by omega), w_small ((Vint.bl (n / 16777216) : Nat) : Int) (by omega) (by omega), w_small ((s : Int) + 16 + 8 + ((Vint.bl (n / 16777216) : Nat) : Int)) (by omega) (by omega)]
      exact congrArg some (by omega)
    · have e : (n : Int) / 65536 % 256 = ((n / 65536 : Nat) : Int) := by omega
      have hl : n / 65536 < 256 := by omega
      have h16 : Vint.bl n = 16 + Vint.bl (n / 65536) := by
        have h_ := Vint.bl_div n 16 (by rw [show (2 : Nat) ^ 16 = 65536 from by decide]; omega)
        rwa [show (2 : Nat) ^ 16 = 65536 from by decide] at h_
      have h8 := tab8 _ hl
      rw [if_neg c2, e, if_pos (by omega), if_pos (by omega), tabT _ hl, h16]
      rw [w_small ((s : Int) + 16) (by omega) (by omega), w_small ((Vint.bl (n / 65536) : Nat) : Int) (by omega) (by omega), w_small ((s : Int) + 16 + ((Vint.bl (n / 65536) : Nat) : Int)) (by omega) (by omega)]
      exact congrArg some (by omega)
  · rw [if_neg c1]
    by_cases c2 : (n : Int) ≥ 256
    · have e : (n : Int) / 256 % 256 = ((n / 256 : Nat) : Int) := by omega
      have hl : n / 256 < 256 := by omega
      have h16 : Vint.bl n = 8 + Vint.bl (n / 256) := by
        have h_ := Vint.bl_div n 8 (by rw [show (2 : Nat) ^ 8 = 256 from by decide]; omega)
        rwa [show (2 : Nat) ^ 8 = 256 from by decide] at h_
      have h8 := tab8 _ hl
      rw [if_pos c2, e, if_pos (by omega), if_pos (by omega), tabT _ hl, h16]
      rw [w_small ((s : Int) + 8) (by omega) (by omega), w_small ((Vint.bl (n / 256) : Nat) : Int) (by omega) (by omega), w_small ((s : Int) + 8 + ((Vint.bl (n / 256) : Nat) : Int)) (by omega) (by omega)]
      exact congrArg some (by omega)
    · have e : (n : Int) % 256 = (n : Int) := by omega
      have hl : n < 256 := by omega
      have h8 := tab8 _ hl
      rw [if_neg c2, e, if_pos (by omega), if_pos (by omega), tabT _ hl]
      rw [w_small ((Vint.bl (n) : Nat) : Int) (by omega) (by omega), w_small ((s : Int) + ((Vint.bl (n) : Nat) : Int)) (by omega) (by omega)]
      exact congrArg some (by omega)
theorem len64_spec (n : Nat) (hn : n < 18446744073709551616) : Ev (fun k => bits_Len64.f k (n : Int)) ((Vint.bl n : Nat) : Int) := by
  unfold bits_Len64.f
  by_cases c : (n : Int) ≥ 4294967296
  · have e : (n : Int) / 4294967296 = ((n / 4294967296 : Nat) : Int) := by omega
    have h32 : Vint.bl n = 32 + Vint.bl (n / 4294967296) := by
        have h_ := Vint.bl_div n 32 (by rw [show (2 : Nat) ^ 32 = 4294967296 from by decide]; omega)
        rwa [show (2 : Nat) ^ 32 = 4294967296 from by decide] at h_
    refine Ev.congr (fun k => if_pos c) ?_
    rw [e, h32]
    exact len_j0 _ 32 (by omega) (by omega)
  · refine Ev.congr (fun k => if_neg c) ?_
    have := len_j0 n 0 (by omega) (by omega)
    rwa [Nat.zero_add] at this
theorem len_spec (n : Nat) (hn : n < 18446744073709551616) : Ev (fun k => vint_Len.f k (n : Int)) ((Vint.enc n).length : Int) := by
  unfold vint_Len.f
  refine Ev.bind (len64_spec n hn) (Ev.congr (f := fun _ => some ((Vint.enc n).length : Int)) (fun k => ?_) (Ev.now _))
  have hb : Vint.bl n ≤ 64 := Vint.bl_small (k := 64) (by rw [show (2 : Nat) ^ 64 = 18446744073709551616 from by decide]; omega)
  rw [Vint.enc_bits]
  have e1 : wrap64 (((Vint.bl n : Nat) : Int) + 6) = ((Vint.bl n : Nat) : Int) + 6 := by unfold wrap64; omega
  have e2 : Int.tdiv (((Vint.bl n : Nat) : Int) + 6) 7 = (((Vint.bl n : Nat) : Int) + 6) / 7 := Int.tdiv_eq_ediv_of_nonneg (by omega)
  have e3 : wrap64 ((((Vint.bl n : Nat) : Int) + 6) / 7) = (((Vint.bl n : Nat) : Int) + 6) / 7 := by unfold wrap64; omega
  rw [e1, e2, e3]
  congr 1
  unfold mx
  split <;> omega

/-! ### The law -/
theorem refput_spec (n : Nat) : n < 18446744073709551616 → Ev (fun k => ferruleref4_Put.f k (n : Int)) (Vint.enc n) := by
  induction n using Nat.strongRecOn with
  | _ n ih =>
    intro hn
    by_cases c : n < 128
    · refine Ev.step (f := fun _ => some (Vint.enc n)) (fun k => ?_) (Ev.now _)
      simp only [ferruleref4_Put.f]
      rw [if_pos (by omega), Vint.enc_lt c, Int.emod_eq_of_lt (by omega) (by omega)]
    · have hl := Vint.enc_len64 (n := n / 128) (by omega)
      have e1 : Int.tmod (n : Int) 128 = ((n % 128 : Nat) : Int) := by rw [Int.tmod_eq_emod_of_nonneg (by omega)]; omega
      have e2 : Int.tdiv (n : Int) 128 = ((n / 128 : Nat) : Int) := by rw [Int.tdiv_eq_ediv_of_nonneg (by omega)]; omega
      have e3 : IntKind.u64.wrap (((n / 128 : Nat) : Int)) = ((n / 128 : Nat) : Int) := by rw [Vint.wrap_u64]; omega
      have e4 : (((n % 128 : Nat) : Int) % 256 + 128) % 256 = ((n % 128 + 128 : Nat) : Int) := by omega
      refine Ev.step (f := fun k => (ferruleref4_Put.f k ((n / 128 : Nat) : Int)).bind fun t => if [((n % 128 + 128 : Nat) : Int)].length + t.length < 140737488355328 then some ([((n % 128 + 128 : Nat) : Int)] ++ t) else none) (fun k => ?_) (Ev.bind (ih (n / 128) (by omega) (by omega)) ?_)
      · simp only [ferruleref4_Put.f]
        rw [if_neg (by omega), e1, e2, e3, e4]
        rfl
      · refine Ev.congr (f := fun _ => some (Vint.enc n)) (fun k => ?_) (Ev.now _)
        rw [if_pos (by simp only [List.length_cons, List.length_nil]; omega), Vint.enc_ge c]
        rfl
theorem refof_spec (v : Int) (h0 : -9223372036854775808 ≤ v) (h1 : v ≤ 9223372036854775807) : ferruleref4_Of.f v = some ((Vint.zz v : Nat) : Int) := by
  unfold ferruleref4_Of.f Vint.zz
  simp only [Vint.wrap_u64]
  by_cases c : v ≥ 0
  · rw [if_pos c, if_pos c]
    congr 1
    omega
  · rw [if_neg c, if_neg c]
    have w : wrap64 (-(wrap64 (v + 1))) = -(v + 1) := by unfold wrap64; omega
    rw [w]
    congr 1
    omega
theorem wf8 (x : Int) (h : (Lit.int .u8 x).wf = true) : 0 ≤ x ∧ x ≤ 255 := by simpa [Lit.wf, IntKind.min, IntKind.max, IntKind.signed, IntKind.bits] using h
theorem str_size (xs : List Int) : (strOfNums xs).size = xs.length := by
  show (strOfNums xs).data.size = _
  simp [strOfNums]
theorem str_join (xs ys : List Int) : strOfNums (xs ++ ys) = strOfNums xs ++ strOfNums ys := by
  apply ByteArray.ext
  simp [strOfNums]
theorem bytes_of (xs : List Int) (h : ∀ x ∈ xs, 0 ≤ x ∧ x ≤ 255) : Kd.bytesNums (strOfNums xs) = xs := by
  unfold Kd.bytesNums strOfNums
  simp only [List.map_map]
  conv => rhs; rw [← List.map_id xs]
  apply List.map_congr_left
  intro x hx
  obtain ⟨h0, h1⟩ := h x hx
  simp only [Function.comp, id, UInt8.toNat_ofNat']
  omega
theorem puts_get (u : Nat) (hu : u < 18446744073709551616) (r : List Int) : Vint.dec 0 0 ((Vint.enc u ++ r).take 10) = some (u, (Vint.enc u).length) := by
  rw [dec_take _ 0 0 10 (by omega), Vint.dec_enc u 0 0 r (by omega) (by omega) (by omega)]
  simp
theorem puts_j0 (n : Nat) (hn : n < 18446744073709551616) (z : Nat) (hz : z < 18446744073709551616) (hzz : Vint.unzz z = wrap64 (n : Int)) (l r : List Int) (hl : l.length ≤ 140737488351232) (hr : r.length ≤ 140737488351232) (hb : ∀ x ∈ r, 0 ≤ x ∧ x ≤ 255) :
    Ev (fun k => ferrulelaw4_VintPuts.j0 k (n : Int) l r (l ++ Vint.enc n) (l ++ Vint.enc z) false) true := by
  have hn10 := Vint.enc_len64 hn
  have hz10 := Vint.enc_len64 hz
  have hbn : ∀ x ∈ Vint.enc n ++ r, 0 ≤ x ∧ x ≤ 255 := fun x hx => by
    rcases List.mem_append.1 hx with h | h
    · exact Vint.enc_bytes n x h
    · exact hb x h
  have hbz : ∀ x ∈ Vint.enc z ++ r, 0 ≤ x ∧ x ≤ 255 := fun x hx => by
    rcases List.mem_append.1 hx with h | h
    · exact Vint.enc_bytes z x h
    · exact hb x h
  have hg := get_spec _ hbn
  have hi := getint_spec _ hbz
  rw [puts_get n hn r] at hg
  rw [puts_get z hz r] at hi
  have d1 : ∀ m : Nat, (l ++ Vint.enc m).drop ((l.length : Int)).toNat = Vint.enc m := fun m => by rw [Int.toNat_natCast]; exact List.drop_left
  refine Ev.step (f := fun k => (vint_Get.f k (Vint.enc n ++ r)).bind fun bt200 => (vint_GetInt.f k (Vint.enc z ++ r)).bind fun bt216 => (if bt200.2.2 = 0 then (if bt216.2.2 = 0 then (if bt200.1 = (n : Int) then (if bt216.1 = (wrap64 ((n : Int))) then (if bt200.2.1 = (wrap64 (((l ++ Vint.enc n).length : Int) - (l.length : Int))) then (if bt216.2.1 = (wrap64 (((l ++ Vint.enc z).length : Int) - (l.length : Int))) then ((vint_Len.f k (n : Int)).bind fun t219 => (some (t219 == bt200.2.1))) else (some false)) else (some false)) else (some false)) else (some false)) else (some false)) else (some false))) (fun k => ?_) (Ev.bind hg (Ev.bind hi ?_))
  · simp only [ferrulelaw4_VintPuts.j0, Option.bind_some, d1, List.length_nil, List.nil_append, Nat.zero_add]
    rw [if_neg (by decide), if_pos (by omega), if_pos (by rw [List.length_append]; omega), if_pos (by omega), if_pos (by omega)]
    congr 1
    funext x
    rw [if_pos (by rw [List.length_append]; omega), if_pos (by omega), if_pos (by omega)]
  · have w1 : wrap64 (((l ++ Vint.enc n).length : Int) - (l.length : Int)) = ((Vint.enc n).length : Int) := by rw [List.length_append]; unfold wrap64; omega
    have w2 : wrap64 (((l ++ Vint.enc z).length : Int) - (l.length : Int)) = ((Vint.enc z).length : Int) := by rw [List.length_append]; unfold wrap64; omega
    rw [w1, w2]
    simp only [getR, getIR]
    refine Ev.congr (fun k => by rw [if_pos trivial, if_pos trivial, if_pos trivial, if_pos hzz, if_pos trivial, if_pos trivial]) (Ev.bind (len_spec n hn) (Ev.congr (f := fun _ => some true) (fun k => ?_) (Ev.now _)))
    simp
theorem VintPuts : ferrulelaw4_VintPuts.Pure := by
  intro a0 l1 l2 w0 _ hl1 hw1 _ hl2 hw2
  have wf : 0 ≤ a0 ∧ a0 ≤ 18446744073709551615 := by simpa [Lit.wf, IntKind.min, IntKind.max, IntKind.signed, IntKind.bits] using w0
  obtain ⟨n, rfl⟩ := Int.eq_ofNat_of_zero_le wf.1
  have hn : n < 18446744073709551616 := by omega
  have hb1 := fun x hx => wf8 x (hw1 x hx)
  have hb2 := fun x hx => wf8 x (hw2 x hx)
  have hv0 : -9223372036854775808 ≤ wrap64 (n : Int) := by unfold wrap64; omega
  have hv1 : wrap64 (n : Int) ≤ 9223372036854775807 := by unfold wrap64; omega
  have hzb := Vint.zz_bound hv0 hv1
  have htake : (l1 ++ [9]).take ((l1.length : Int)).toNat = l1 := by rw [Int.toNat_natCast]; exact List.take_left
  have hA : Ev (fun k => ferrulelaw4_awake.f k) true := Ev.of (fun k => ferrulelaw4_awake.mono k) (k := 60) (by decide +kernel)
  have hn10 := Vint.enc_len64 hn
  have hz10 := Vint.enc_len64 hzb
  unfold ferrulelaw4_VintPuts.f
  refine Ev.rounds (Ev.bind hA ?_)
  refine Ev.congr (fun k => by rw [if_pos rfl, if_pos (by rw [str_size]; omega), bytes_of l1 hb1, Option.bind_some, if_pos (by omega), Option.bind_some, if_pos (by omega), if_pos (by rw [List.length_append, List.length_singleton]; omega), htake]) ?_
  refine Ev.bind (put_spec n hn l1 (by omega)) (Ev.bind (putint_spec (wrap64 (n : Int)) hv0 hv1 l1 (by omega)) (Ev.bind (refput_spec n hn) ?_))
  refine Ev.congr (fun k => by rw [if_pos (by rw [str_size, str_size]; omega), if_pos (by rw [str_join]), refof_spec _ hv0 hv1, Option.bind_some]) ?_
  refine Ev.bind (refput_spec _ hzb) ?_
  refine Ev.congr (fun k => by rw [if_pos (by rw [str_size, str_size]; omega), if_pos (by rw [str_join]), if_pos (by rw [str_size]; omega)]) ?_
  have e : ((strOfNums (l1 ++ [9])).toList != (strOfNums l1 ++ (⟨#[9]⟩ : ByteArray)).toList) = false := by
    rw [str_join]
    have : strOfNums [9] = (⟨#[9]⟩ : ByteArray) := by rfl
    rw [this]
    simp
  rw [e]
  exact puts_j0 n hn _ hzb (Vint.unzz_zz _) l1 l2 (by omega) (by omega) hb2

end Go.Proofs.Ytdgjcgofghacjaa.Pure
