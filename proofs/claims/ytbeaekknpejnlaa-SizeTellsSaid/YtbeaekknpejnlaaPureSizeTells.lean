/- For any Config and any numbers: the sizes, whether a device may be so, how many windows are written anew and how many pages are programmed are what the reference tells. Conditions: none beyond the row's own. -/
import Derived.Test.YtbeaekknpejnlaaPSizeTellsx9
namespace Go.Proofs.Ytbeaekknpejnlaa.Pure
open Go.RowKit Go.Proofs.Ytbeaekknpejnlaa.PSizeTells Go.Proofs.YtbeaekknpejnlaaW.PrintWords Go.Proofs.YtbeaekknpejnlaaW.PrintLast Go.Proofs.YtbeaekknpejnlaaW.PrintMore
set_option linter.unusedVariables false
set_option linter.unusedSimpArgs false

theorem wr {x : Int} (h0 : -9223372036854775808 ≤ x) (h1 : x ≤ 9223372036854775807) : wrap64 x = x := by unfold wrap64; omega

/-! ### The length of a number -/
def ln (n : Int) : Int := if n < 128 then 1 else 2
theorem ln_range (n : Int) : 1 ≤ ln n ∧ ln n ≤ 2 := by unfold ln; split <;> omega
theorem ln_mono {a b : Int} (h : a ≤ b) : ln a ≤ ln b := by unfold ln; split <;> split <;> omega
theorem len_tab : (List.range 4200).all (fun n => decide (size_length.f 5 (n : Int) = some (ln (n : Int)))) = true := by decide +kernel
theorem len_ev (n : Int) (h0 : 0 ≤ n) (h1 : n < 4200) : Ev (fun k => size_length.f k n) (ln n) := by
  refine Ev.of (fun k => size_length.mono n k) (k := 5) ?_
  have h := List.all_eq_true.1 len_tab n.toNat (List.mem_range.2 (by omega))
  have h2 := of_decide_eq_true h
  rwa [Int.toNat_of_nonneg h0] at h2

/-! ### Pages, rounded up -/
def pg (n : Int) : Int := if n ≤ 0 then 1 else (n + 31) / 32
def up (a b : Int) : Int := (a + b - 1) / b
theorem tdiv_of {a b : Int} (h : 0 ≤ a) : Int.tdiv a b = a / b := Int.tdiv_eq_ediv_of_nonneg h
theorem pg_range {n : Int} (h0 : 0 ≤ n) (h1 : n ≤ 4000) : 1 ≤ pg n ∧ pg n ≤ 126 := by unfold pg; split <;> omega
theorem pg_mono {a b : Int} (h : a ≤ b) (h0 : 0 ≤ a) : pg a ≤ pg b := by unfold pg; split <;> split <;> omega
theorem pages_eq {n : Int} (h0 : 0 ≤ n) (h1 : n ≤ 4000) : leaf_Pages.f n = some (pg n) := by
  unfold leaf_Pages.f pg
  rw [if_neg (by omega), if_neg (by omega), wr (show -9223372036854775808 ≤ n + 32 by omega) (by omega), wr (show -9223372036854775808 ≤ n + 32 - 1 by omega) (by omega), tdiv_of (by omega), wr (by omega) (by omega)]
  congr 1
  unfold mx
  split <;> split <;> omega
theorem up_eq {a b : Int} (h0 : 0 ≤ a) (h1 : a ≤ 1000000) (hb : 1 ≤ b) (hb2 : b ≤ 1000000) : size_up.f a b = some (up a b) := by
  unfold size_up.f up
  have h2 : 0 ≤ (a + b - 1) / b := Int.ediv_nonneg (by omega) (by omega)
  have h3 : (a + b - 1) / b ≤ a + b - 1 := Int.ediv_le_self _ (by omega)
  rw [if_neg (by omega), wr (show -9223372036854775808 ≤ a + b by omega) (by omega), wr (show -9223372036854775808 ≤ a + b - 1 by omega) (by omega), tdiv_of (by omega), wr (by omega) (by omega)]
theorem up_range {a b : Int} (h0 : 0 ≤ a) (hb : 1 ≤ b) : 0 ≤ up a b ∧ up a b ≤ a := by
  unfold up
  refine ⟨Int.ediv_nonneg (by omega) (by omega), ?_⟩
  have h : a + b - 1 < (a + 1) * b := by
    have : a * 1 ≤ a * b := Int.mul_le_mul_of_nonneg_left hb h0
    rw [Int.add_mul]; omega
  have := Int.ediv_lt_of_lt_mul (show 0 < b by omega) h
  omega
theorem up_pos {a b : Int} (h0 : 1 ≤ a) (hb : 1 ≤ b) : 1 ≤ up a b := by
  unfold up
  exact Int.le_ediv_of_mul_le (by omega) (by omega)
theorem up_mono {a c b : Int} (h : a ≤ c) (hb : 1 ≤ b) : up a b ≤ up c b := by
  unfold up
  exact Int.ediv_le_ediv (by omega) (by omega)

/-! ### The sizes -/
/-- a Config's numbers are in their spans -/
def spanned (B P C S M W : Int) : Prop := 8 ≤ B ∧ B ≤ 64 ∧ 4 ≤ P ∧ P ≤ 32 ∧ 0 ≤ S ∧ S ≤ 4 ∧ 1 ≤ C ∧ C ≤ 512 ∧ 1 ≤ W ∧ W ≤ P ∧ W ≤ C ∧ 1 ≤ M ∧ M ≤ 512
instance (B P C S M W : Int) : Decidable (spanned B P C S M W) := by unfold spanned; exact inferInstance
def runBytes (B P C : Int) : Int := 2 * ln C + ln (2 * (B * P) + 1)
def snapPages (B P C M : Int) : Int := pg (ln M + M * runBytes B P C)
def opsMost (P C S : Int) : Int := 4 + S + max (up C P) P
def opBytes (B P C : Int) : Int := ln (2 * C + 1) + ln C + ln (2 * (B * P) + 3)
def recPages (B P C S : Int) : Int := pg (ln (opsMost P C S) + opsMost P C S * opBytes B P C)
def logPages (B P C S M : Int) : Int := 2 * recPages B P C S + P + snapPages B P C M
def epochBlocks (B P C S M : Int) : Int := up (snapPages B P C M + logPages B P C S M) P
def metaBlocks (B P C S M : Int) : Int := epochBlocks B P C S M + up (snapPages B P C M) P + 3
def slack (P C S : Int) : Int := up C P + 8 + 4 * S
def mountReads (B P C S M : Int) : Int := B + 2 * P * (epochBlocks B P C S M + 2 + S)

theorem prod_le {a b x y : Int} (ha : 0 ≤ a) (hx : a ≤ x) (hb : 0 ≤ b) (hy : b ≤ y) : 0 ≤ a * b ∧ a * b ≤ x * y :=
  ⟨Int.mul_nonneg ha hb, Int.mul_le_mul hx hy hb (by omega)⟩
structure Facts (B P C S M W : Int) : Prop where
  bp : 32 ≤ B * P ∧ B * P ≤ 2048
  rb : 3 ≤ runBytes B P C ∧ runBytes B P C ≤ 6
  mrb : 0 ≤ M * runBytes B P C ∧ M * runBytes B P C ≤ 3072
  sp : 1 ≤ snapPages B P C M ∧ snapPages B P C M ≤ 126
  om : 4 ≤ opsMost P C S ∧ opsMost P C S ≤ 520
  ob : 3 ≤ opBytes B P C ∧ opBytes B P C ≤ 6
  oo : 0 ≤ opsMost P C S * opBytes B P C ∧ opsMost P C S * opBytes B P C ≤ 3120
  rp : 1 ≤ recPages B P C S ∧ recPages B P C S ≤ 126
  lp : 7 ≤ logPages B P C S M ∧ logPages B P C S M ≤ 410
  eb : 0 ≤ epochBlocks B P C S M ∧ epochBlocks B P C S M ≤ 536
  us : 0 ≤ up (snapPages B P C M) P ∧ up (snapPages B P C M) P ≤ 126
  uc : 1 ≤ up C P ∧ up C P ≤ 512
  uw : 1 ≤ up C W ∧ up C W ≤ 512
  pe : 0 ≤ 2 * P * (epochBlocks B P C S M + 2 + S) ∧ 2 * P * (epochBlocks B P C S M + 2 + S) ≤ 64 * 542
theorem facts {B P C S M W : Int} (h : spanned B P C S M W) : Facts B P C S M W := by
  obtain ⟨b0, b1, p0, p1, s0, s1, c0, c1, w0, w1, w2, m0, m1⟩ := h
  have bp : 32 ≤ B * P ∧ B * P ≤ 2048 := ⟨by have := Int.mul_le_mul b0 p0 (by omega) (by omega); omega, by have := (prod_le (show 0 ≤ B by omega) b1 (show 0 ≤ P by omega) p1).2; omega⟩
  have l1 := ln_range C
  have l2 := ln_range (2 * (B * P) + 1)
  have rb : 3 ≤ runBytes B P C ∧ runBytes B P C ≤ 6 := by unfold runBytes; omega
  have mrb := prod_le (show 0 ≤ M by omega) m1 (show 0 ≤ runBytes B P C by omega) rb.2
  have l3 := ln_range M
  have sp : 1 ≤ snapPages B P C M ∧ snapPages B P C M ≤ 126 := by unfold snapPages; exact pg_range (by omega) (by omega)
  have uc0 := up_range (show 0 ≤ C by omega) (show 1 ≤ P by omega)
  have uc1 := up_pos c0 (show 1 ≤ P by omega)
  have om : 4 ≤ opsMost P C S ∧ opsMost P C S ≤ 520 := by unfold opsMost; omega
  have l4 := ln_range (2 * C + 1)
  have l5 := ln_range (2 * (B * P) + 3)
  have ob : 3 ≤ opBytes B P C ∧ opBytes B P C ≤ 6 := by unfold opBytes; omega
  have oo := prod_le (show 0 ≤ opsMost P C S by omega) om.2 (show 0 ≤ opBytes B P C by omega) ob.2
  have l6 := ln_range (opsMost P C S)
  have rp : 1 ≤ recPages B P C S ∧ recPages B P C S ≤ 126 := by unfold recPages; exact pg_range (by omega) (by omega)
  have lp : 7 ≤ logPages B P C S M ∧ logPages B P C S M ≤ 410 := by unfold logPages; omega
  have eb := up_range (show 0 ≤ snapPages B P C M + logPages B P C S M by omega) (show 1 ≤ P by omega)
  have eb' : 0 ≤ epochBlocks B P C S M ∧ epochBlocks B P C S M ≤ 536 := by unfold epochBlocks; omega
  have us := up_range (show 0 ≤ snapPages B P C M by omega) (show 1 ≤ P by omega)
  have uw0 := up_range (show 0 ≤ C by omega) w0
  have uw1 := up_pos c0 w0
  have pe := prod_le (show 0 ≤ 2 * P by omega) (show 2 * P ≤ 64 by omega) (show 0 ≤ epochBlocks B P C S M + 2 + S by omega) (show epochBlocks B P C S M + 2 + S ≤ 542 by omega)
  exact ⟨bp, rb, ⟨mrb.1, by omega⟩, sp, om, ob, ⟨oo.1, by omega⟩, rp, lp, eb', ⟨us.1, by omega⟩, ⟨uc1, by omega⟩, ⟨uw1, by omega⟩, pe⟩

/-- the tuple that Of tells -/
abbrev T11 := Int × Int × Int × Int × Int × Int × Int × Int × Int × Int × Int
def ofT (B P C S M W : Int) : Int × Int × Int × Int × Int × Int × Int × Int × Int × Int × Int × Int :=
  (runBytes B P C, snapPages B P C M, opsMost P C S, opBytes B P C, recPages B P C S, logPages B P C S M, epochBlocks B P C S M, metaBlocks B P C S M, up C W, slack P C S, mountReads B P C S M, 0)
def ofR (B P C S M W : Int) : Int × Int × Int × Int × Int × Int × Int × Int × Int × Int × Int × Int :=
  if spanned B P C S M W then ofT B P C S M W else (0, 0, 0, 0, 0, 0, 0, 0, 0, 0, 0, 1)

theorem within_eq (a b c : Int) : size_within.f a b c = some (decide (b ≤ a ∧ a ≤ c)) := by
  unfold size_within.f
  by_cases h : a ≥ b
  · rw [if_pos h]; congr 1; by_cases h2 : a ≤ c <;> simp [h2] <;> omega
  · rw [if_neg h]; congr 1; symm; exact decide_eq_false (by omega)

theorem of_in {B P C S M W : Int} (fl : Bool) (h : spanned B P C S M W) : Ev (fun k => size_Of.j0 k false B P C S M W fl) (ofT B P C S M W) := by
  obtain ⟨bp, rb, mrb, sp, om, ob, oo, rp, lp, eb, us, uc, uw, pe⟩ := facts h
  obtain ⟨b0, b1, p0, p1, s0, s1, c0, c1, w0, w1, w2, m0, m1⟩ := h
  have l1 := ln_range C
  have l2 := ln_range (2 * (B * P) + 1)
  have l3 := ln_range M
  have l4 := ln_range (2 * C + 1)
  have l5 := ln_range (2 * (B * P) + 3)
  have l6 := ln_range (opsMost P C S)
  have e1 : wrap64 (B * P) = B * P := wr (by omega) (by omega)
  have e2 : wrap64 (2 * (B * P)) = 2 * (B * P) := wr (by omega) (by omega)
  have e3 : wrap64 (2 * (B * P) + 1) = 2 * (B * P) + 1 := wr (by omega) (by omega)
  have e4 : wrap64 (2 * ln C) = 2 * ln C := wr (by omega) (by omega)
  have e5 : wrap64 (2 * ln C + ln (2 * (B * P) + 1)) = runBytes B P C := wr (by omega) (by omega)
  have e6 : wrap64 (M * runBytes B P C) = M * runBytes B P C := wr (by omega) (by omega)
  have e7 : wrap64 (ln M + M * runBytes B P C) = ln M + M * runBytes B P C := wr (by omega) (by omega)
  have e8 : wrap64 (4 + S) = 4 + S := wr (by omega) (by omega)
  have hm : mx (up C P) P = max (up C P) P := by unfold mx; split <;> omega
  have e9 : wrap64 (4 + S + mx (up C P) P) = opsMost P C S := by rw [hm]; exact wr (by unfold opsMost at om; omega) (by unfold opsMost at om; omega)
  have e10 : wrap64 (2 * C) = 2 * C := wr (by omega) (by omega)
  have e11 : wrap64 (2 * C + 1) = 2 * C + 1 := wr (by omega) (by omega)
  have e12 : wrap64 (2 * (B * P) + 3) = 2 * (B * P) + 3 := wr (by omega) (by omega)
  have e13 : wrap64 (ln (2 * C + 1) + ln C) = ln (2 * C + 1) + ln C := wr (by omega) (by omega)
  have e14 : wrap64 (ln (2 * C + 1) + ln C + ln (2 * (B * P) + 3)) = opBytes B P C := wr (by omega) (by omega)
  have e15 : wrap64 (opsMost P C S * opBytes B P C) = opsMost P C S * opBytes B P C := wr (by omega) (by omega)
  have e16 : wrap64 (ln (opsMost P C S) + opsMost P C S * opBytes B P C) = ln (opsMost P C S) + opsMost P C S * opBytes B P C := wr (by omega) (by omega)
  have e17 : wrap64 (2 * recPages B P C S) = 2 * recPages B P C S := wr (by omega) (by omega)
  have e18 : wrap64 (2 * recPages B P C S + P) = 2 * recPages B P C S + P := wr (by omega) (by omega)
  have e19 : wrap64 (2 * recPages B P C S + P + snapPages B P C M) = logPages B P C S M := wr (by unfold logPages at lp; omega) (by unfold logPages at lp; omega)
  have e20 : wrap64 (snapPages B P C M + logPages B P C S M) = snapPages B P C M + logPages B P C S M := wr (by omega) (by omega)
  have e21 : wrap64 (epochBlocks B P C S M + up (snapPages B P C M) P) = epochBlocks B P C S M + up (snapPages B P C M) P := wr (by omega) (by omega)
  have e22 : wrap64 (epochBlocks B P C S M + up (snapPages B P C M) P + 3) = metaBlocks B P C S M := wr (by omega) (by omega)
  have e23 : wrap64 (up C P + 8) = up C P + 8 := wr (by omega) (by omega)
  have e24 : wrap64 (4 * S) = 4 * S := wr (by omega) (by omega)
  have e25 : wrap64 (up C P + 8 + 4 * S) = slack P C S := wr (by omega) (by omega)
  have e26 : wrap64 (2 * P) = 2 * P := wr (by omega) (by omega)
  have e27 : wrap64 (epochBlocks B P C S M + 2) = epochBlocks B P C S M + 2 := wr (by omega) (by omega)
  have e28 : wrap64 (epochBlocks B P C S M + 2 + S) = epochBlocks B P C S M + 2 + S := wr (by omega) (by omega)
  have e29 : wrap64 (2 * P * (epochBlocks B P C S M + 2 + S)) = 2 * P * (epochBlocks B P C S M + 2 + S) := wr (by omega) (by omega)
  have e30 : wrap64 (B + 2 * P * (epochBlocks B P C S M + 2 + S)) = mountReads B P C S M := wr (by omega) (by omega)
  have q1 : leaf_Pages.f (ln M + M * runBytes B P C) = some (snapPages B P C M) := pages_eq (by omega) (by omega)
  have q2 : leaf_Pages.f (ln (opsMost P C S) + opsMost P C S * opBytes B P C) = some (recPages B P C S) := pages_eq (by omega) (by omega)
  have q3 : size_up.f C P = some (up C P) := up_eq (by omega) (by omega) (by omega) (by omega)
  have q4 : size_up.f (snapPages B P C M + logPages B P C S M) P = some (epochBlocks B P C S M) := up_eq (by omega) (by omega) (by omega) (by omega)
  have q5 : size_up.f (snapPages B P C M) P = some (up (snapPages B P C M) P) := up_eq (by omega) (by omega) (by omega) (by omega)
  have q6 : size_up.f C W = some (up C W) := up_eq (by omega) (by omega) (by omega) (by omega)
  refine Ev.step (fun k => by simp only [size_Of.j0, Bool.false_eq_true, if_false]; rfl) ?_
  refine Ev.bind (len_ev C (by omega) (by omega)) ?_
  rw [e1, e2, e3]
  refine Ev.bind (len_ev _ (by omega) (by omega)) ?_
  refine Ev.bind (len_ev M (by omega) (by omega)) ?_
  rw [e4, e5, e6, e7, q1, q3]
  simp only [Option.bind_some]
  rw [e10, e11]
  refine Ev.bind (len_ev _ (by omega) (by omega)) ?_
  refine Ev.bind (len_ev _ (by omega) (by omega)) ?_
  rw [e12]
  refine Ev.bind (len_ev _ (by omega) (by omega)) ?_
  rw [e8, e9]
  refine Ev.bind (len_ev _ (by omega) (by omega)) ?_
  rw [e13, e14, e15, e16, q2]
  simp only [Option.bind_some]
  rw [e17, e18, e19, e20, q4, q5, q6]
  simp only [Option.bind_some]
  rw [e21, e22, e23, e24, e25, e26, e27, e28, e29, e30]
  exact Ev.now _

theorem of_ev (B P C S M W : Int) (fl : Bool) : Ev (fun k => size_Of.f k B P C S M W fl) (ofR B P C S M W) := by
  have out : ∀ (h : ¬ spanned B P C S M W), Ev (fun k => size_Of.j0 k true B P C S M W fl) (ofR B P C S M W) := by
    intro h
    unfold ofR
    rw [if_neg h]
    exact Ev.step (fun k => by simp only [size_Of.j0, if_true]) (Ev.now _)
  have hm : mn P C = min P C := by unfold mn; split <;> omega
  unfold size_Of.f
  simp only [within_eq, Option.bind_some, decide_eq_true_eq, hm]
  by_cases c1 : 8 ≤ B ∧ B ≤ 64
  · by_cases c2 : 4 ≤ P ∧ P ≤ 32
    · by_cases c3 : 0 ≤ S ∧ S ≤ 4
      · by_cases c4 : 1 ≤ C ∧ C ≤ 512
        · by_cases c5 : 1 ≤ W ∧ W ≤ min P C
          · simp only [if_pos c1, if_pos c2, if_pos c3, if_pos c4, if_pos c5]
            by_cases c6 : 1 ≤ M ∧ M ≤ 512
            · have hs : spanned B P C S M W := ⟨c1.1, c1.2, c2.1, c2.2, c3.1, c3.2, c4.1, c4.2, c5.1, by omega, by omega, c6.1, c6.2⟩
              rw [decide_eq_true c6]
              unfold ofR
              rw [if_pos hs]
              exact of_in fl hs
            · rw [decide_eq_false c6]
              exact out (fun h => c6 ⟨h.2.2.2.2.2.2.2.2.2.2.2.1, h.2.2.2.2.2.2.2.2.2.2.2.2⟩)
          · simp only [if_pos c1, if_pos c2, if_pos c3, if_pos c4, if_neg c5]
            exact out (fun h => c5 ⟨h.2.2.2.2.2.2.2.2.1, by have := h.2.2.2.2.2.2.2.2.2.1; have := h.2.2.2.2.2.2.2.2.2.2.1; omega⟩)
        · simp only [if_pos c1, if_pos c2, if_pos c3, if_neg c4]
          exact out (fun h => c4 ⟨h.2.2.2.2.2.2.1, h.2.2.2.2.2.2.2.1⟩)
      · simp only [if_pos c1, if_pos c2, if_neg c3]
        exact out (fun h => c3 ⟨h.2.2.2.2.1, h.2.2.2.2.2.1⟩)
    · simp only [if_pos c1, if_neg c2]
      exact out (fun h => c2 ⟨h.2.2.1, h.2.2.2.1⟩)
  · simp only [if_neg c1]
    exact out (fun h => c1 ⟨h.1, h.2.1⟩)

/-- may a device be so -/
def good (B P C S M W : Int) : Prop := spanned B P C S M W ∧ 4 * up C W + slack P C S ≤ M ∧ 3 * C ≤ (B - S - metaBlocks B P C S M - 8) * P ∧ mountReads B P C S M < B * P
instance (B P C S M W : Int) : Decidable (good B P C S M W) := by unfold good; exact inferInstance
theorem mb_bound {B P C S M W : Int} (h : spanned B P C S M W) : 3 ≤ metaBlocks B P C S M ∧ metaBlocks B P C S M ≤ 665 := by
  have f := facts h
  have := f.eb; have := f.us
  unfold metaBlocks; omega
theorem good_wraps {B P C S M W : Int} (h : spanned B P C S M W) :
    wrap64 (wrap64 (4 * up C W) + slack P C S) = 4 * up C W + slack P C S ∧ wrap64 (3 * C) = 3 * C ∧ wrap64 (wrap64 (wrap64 (wrap64 (B - S) - metaBlocks B P C S M) - 8) * P) = (B - S - metaBlocks B P C S M - 8) * P ∧ wrap64 (B * P) = B * P := by
  have f := facts h
  obtain ⟨bp, rb, mrb, sp, om, ob, oo, rp, lp, eb, us, uc, uw, pe⟩ := f
  have mb := mb_bound h
  obtain ⟨b0, b1, p0, p1, s0, s1, c0, c1, w0, w1, w2, m0, m1⟩ := h
  have hs : 9 ≤ slack P C S ∧ slack P C S ≤ 536 := by unfold slack; omega
  have hp : (B - S - metaBlocks B P C S M - 8) * P ≤ 64 * 32 ∧ -700 * 32 ≤ (B - S - metaBlocks B P C S M - 8) * P := by
    generalize hq : B - S - metaBlocks B P C S M - 8 = q
    have h1 : q * P ≤ 64 * P := Int.mul_le_mul_of_nonneg_right (by omega) (by omega)
    have h2 : -700 * P ≤ q * P := Int.mul_le_mul_of_nonneg_right (by omega) (by omega)
    omega
  refine ⟨?_, wr (by omega) (by omega), ?_, wr (by omega) (by omega)⟩
  · rw [wr (show -9223372036854775808 ≤ 4 * up C W by omega) (by omega), wr (by omega) (by omega)]
  · rw [wr (show -9223372036854775808 ≤ B - S by omega) (by omega), wr (show -9223372036854775808 ≤ B - S - metaBlocks B P C S M by omega) (by omega), wr (show -9223372036854775808 ≤ B - S - metaBlocks B P C S M - 8 by omega) (by omega), wr (by omega) (by omega)]

theorem good_ev (B P C S M W : Int) (fl : Bool) : Ev (fun k => size_Good.f k B P C S M W fl) (decide (good B P C S M W)) := by
  refine Ev.congr (fun k => by rw [size_Good.f]) ?_
  refine Ev.bind (of_ev B P C S M W fl) ?_
  by_cases hs : spanned B P C S M W
  · have e : ofR B P C S M W = ofT B P C S M W := by unfold ofR; rw [if_pos hs]
    obtain ⟨w1, w2, w3, w4⟩ := good_wraps hs
    refine Ev.congr (f := fun _ => some (decide (good B P C S M W))) (fun k => ?_) (Ev.now _)
    rw [e]
    show (if (0 : Int) = 0 then (if M ≥ wrap64 (wrap64 (4 * up C W) + slack P C S) then (if wrap64 (3 * C) ≤ wrap64 (wrap64 (wrap64 (wrap64 (B - S) - metaBlocks B P C S M) - 8) * P) then some (decide (mountReads B P C S M < wrap64 (B * P))) else some false) else some false) else some false) = _
    rw [w1, w2, w3, w4, if_pos rfl]
    by_cases g1 : M ≥ 4 * up C W + slack P C S
    · rw [if_pos g1]
      by_cases g2 : 3 * C ≤ (B - S - metaBlocks B P C S M - 8) * P
      · rw [if_pos g2]
        congr 1
        by_cases g3 : mountReads B P C S M < B * P
        · rw [decide_eq_true g3]; exact (decide_eq_true ⟨hs, g1, g2, g3⟩).symm
        · rw [decide_eq_false g3]; exact (decide_eq_false (fun h => g3 h.2.2.2)).symm
      · rw [if_neg g2]; congr 1; exact (decide_eq_false (fun h => g2 h.2.2.1)).symm
    · rw [if_neg g1]; congr 1; exact (decide_eq_false (fun h => g1 h.2.1)).symm
  · have e : ofR B P C S M W = (0, 0, 0, 0, 0, 0, 0, 0, 0, 0, 0, 1) := by unfold ofR; rw [if_neg hs]
    rw [e, decide_eq_false (fun h : good B P C S M W => hs h.1)]
    exact Ev.congr (fun k => by rw [if_neg (by decide)]) (Ev.now _)

/-- Rewrites, CallPrograms -/
def rew (P S n : Int) : Int := up n P + 3 + 2 * S
def rewR (B P C S M W n : Int) : Int × Int := if good B P C S M W ∧ 1 ≤ n ∧ n ≤ C then (rew P S n, 0) else (0, 1)
theorem rew_ev (B P C S M W n : Int) (fl : Bool) : Ev (fun k => size_Rewrites.f k B P C S M W fl n) (rewR B P C S M W n) := by
  refine Ev.congr (fun k => by rw [size_Rewrites.f]) ?_
  refine Ev.bind (good_ev B P C S M W fl) ?_
  by_cases hg : good B P C S M W
  · rw [decide_eq_true hg]
    obtain ⟨b0, b1, p0, p1, s0, s1, c0, c1, w0, w1, w2, m0, m1⟩ := hg.1
    refine Ev.congr (f := fun _ => some (rewR B P C S M W n)) (fun k => ?_) (Ev.now _)
    rw [if_pos rfl, within_eq]
    simp only [Option.bind_some]
    by_cases hn : 1 ≤ n ∧ n ≤ C
    · rw [decide_eq_true hn, if_pos rfl, up_eq (by omega) (by omega) (by omega) (by omega)]
      have u := up_range (show 0 ≤ n by omega) (show 1 ≤ P by omega)
      simp only [Option.bind_some]
      rw [wr (show -9223372036854775808 ≤ up n P + 3 by omega) (by omega), wr (show -9223372036854775808 ≤ 2 * S by omega) (by omega), wr (show -9223372036854775808 ≤ up n P + 3 + 2 * S by omega) (by omega)]
      unfold rewR
      rw [if_pos ⟨hg, hn.1, hn.2⟩]; rfl
    · rw [decide_eq_false hn, if_neg (by decide)]
      unfold rewR
      rw [if_neg (fun h => hn h.2)]
  · rw [decide_eq_false hg]
    have e : rewR B P C S M W n = (0, 1) := by unfold rewR; rw [if_neg (fun h => hg h.1)]
    rw [e]
    exact Ev.congr (fun k => by rw [if_neg (by decide)]) (Ev.now _)
def dataOf (P S W n : Int) : Int := n + rew P S n * W
def recsOf (P S W n : Int) : Int := 6 + rew P S n + 4 * up (dataOf P S W n) P
def progs (B P C S M W n f : Int) : Int := 4 * (dataOf P S W n + 2 * P) + 2 * recsOf P S W n * recPages B P C S + 2 * snapPages B P C M + 4 * (1 + f) * P
def progR (B P C S M W n f : Int) : Int × Int := if good B P C S M W ∧ 1 ≤ n ∧ n ≤ C ∧ 0 ≤ f ∧ f ≤ 1000 then (progs B P C S M W n f, 0) else (0, 1)
structure PFacts (B P C S M W n f : Int) : Prop where
  rw : 3 ≤ rew P S n ∧ rew P S n ≤ 523
  rww : 0 ≤ rew P S n * W ∧ rew P S n * W ≤ 523 * 32
  dt : 1 ≤ dataOf P S W n ∧ dataOf P S W n ≤ 20000
  ud : 0 ≤ up (dataOf P S W n) P ∧ up (dataOf P S W n) P ≤ 20000
  rc : 9 ≤ recsOf P S W n ∧ recsOf P S W n ≤ 90000
  rr : 0 ≤ 2 * recsOf P S W n * recPages B P C S ∧ 2 * recsOf P S W n * recPages B P C S ≤ 180000 * 126
  fp : 0 ≤ 4 * (1 + f) * P ∧ 4 * (1 + f) * P ≤ 4004 * 32
theorem pfacts {B P C S M W n f : Int} (h : spanned B P C S M W) (hn : 1 ≤ n ∧ n ≤ C) (hf : 0 ≤ f ∧ f ≤ 1000) : PFacts B P C S M W n f := by
  obtain ⟨bp, rb, mrb, sp, om, ob, oo, rp, lp, eb, us, uc, uw, pe⟩ := facts h
  obtain ⟨b0, b1, p0, p1, s0, s1, c0, c1, w0, w1, w2, m0, m1⟩ := h
  have u := up_range (show 0 ≤ n by omega) (show 1 ≤ P by omega)
  have rw_ : 3 ≤ rew P S n ∧ rew P S n ≤ 523 := by unfold rew; omega
  have rww := prod_le (show 0 ≤ rew P S n by omega) rw_.2 (show 0 ≤ W by omega) (show W ≤ 32 by omega)
  have dt : 1 ≤ dataOf P S W n ∧ dataOf P S W n ≤ 20000 := by unfold dataOf; omega
  have ud := up_range (show 0 ≤ dataOf P S W n by omega) (show 1 ≤ P by omega)
  have rc : 9 ≤ recsOf P S W n ∧ recsOf P S W n ≤ 90000 := by unfold recsOf; omega
  have rr := prod_le (show 0 ≤ 2 * recsOf P S W n by omega) (show 2 * recsOf P S W n ≤ 180000 by omega) (show 0 ≤ recPages B P C S by omega) rp.2
  have fp := prod_le (show 0 ≤ 4 * (1 + f) by omega) (show 4 * (1 + f) ≤ 4004 by omega) (show 0 ≤ P by omega) p1
  exact ⟨rw_, rww, dt, ⟨ud.1, by omega⟩, rc, rr, fp⟩

theorem prog_ev (B P C S M W n f : Int) (fl : Bool) : Ev (fun k => size_CallPrograms.f k B P C S M W fl n f) (progR B P C S M W n f) := by
  have out : ∀ (x : Int) (h : ¬ (good B P C S M W ∧ 1 ≤ n ∧ n ≤ C ∧ 0 ≤ f ∧ f ≤ 1000)), Ev (fun k => size_CallPrograms.j0 k n f x true B P C S M W fl) (progR B P C S M W n f) := by
    intro x h
    unfold progR
    rw [if_neg h]
    exact Ev.step (fun k => by simp only [size_CallPrograms.j0, if_true]) (Ev.now _)
  refine Ev.congr (fun k => by rw [size_CallPrograms.f]) ?_
  refine Ev.bind (rew_ev B P C S M W n fl) ?_
  by_cases hg : good B P C S M W ∧ 1 ≤ n ∧ n ≤ C
  · have e : rewR B P C S M W n = (rew P S n, 0) := by unfold rewR; rw [if_pos hg]
    rw [e]
    refine Ev.congr (fun k => by rw [if_pos rfl, within_eq]) ?_
    simp only [Option.bind_some]
    by_cases hf : 0 ≤ f ∧ f ≤ 1000
    · rw [decide_eq_true hf]
      have hs := hg.1.1
      obtain ⟨rw_, rww, dt, ud, rc, rr, fp⟩ := pfacts (f := f) hs hg.2 hf
      obtain ⟨bp, rb, mrb, sp, om, ob, oo, rp, lp, eb, us, uc, uw, pe⟩ := facts hs
      obtain ⟨b0, b1, p0, p1, s0, s1, c0, c1, w0, w1, w2, m0, m1⟩ := hs
      refine Ev.step (f := fun k => (size_Of.f k B P C S M W fl).bind fun bt149 => ((size_up.f (wrap64 (n + (wrap64 (rew P S n * W)))) P).bind fun t162 => (some (wrap64 ((wrap64 ((wrap64 ((wrap64 (4 * (wrap64 ((wrap64 (n + (wrap64 (rew P S n * W)))) + (wrap64 (2 * P)))))) + (wrap64 ((wrap64 (2 * (wrap64 ((wrap64 (6 + rew P S n)) + (wrap64 (4 * t162)))))) * bt149.2.2.2.2.1)))) + (wrap64 (2 * bt149.2.1)))) + (wrap64 ((wrap64 (4 * (wrap64 (1 + f)))) * P))), (0 : Int))))) (fun k => by simp only [size_CallPrograms.j0, Bool.not_true, Bool.false_eq_true, if_false]) ?_
      refine Ev.bind (of_ev B P C S M W fl) ?_
      have eo : ofR B P C S M W = ofT B P C S M W := by unfold ofR; rw [if_pos hg.1.1]
      rw [eo]
      refine Ev.congr (f := fun _ => some (progR B P C S M W n f)) (fun k => ?_) (Ev.now _)
      have a1 : wrap64 (rew P S n * W) = rew P S n * W := wr (by omega) (by omega)
      have a2 : wrap64 (n + rew P S n * W) = dataOf P S W n := wr (by unfold dataOf at dt; omega) (by unfold dataOf at dt; omega)
      rw [a1, a2, up_eq (by omega) (by omega) (by omega) (by omega)]
      simp only [Option.bind_some]
      show some (wrap64 (wrap64 (wrap64 (wrap64 (4 * wrap64 (dataOf P S W n + wrap64 (2 * P))) + wrap64 (wrap64 (2 * wrap64 (wrap64 (6 + rew P S n) + wrap64 (4 * up (dataOf P S W n) P))) * recPages B P C S)) + wrap64 (2 * snapPages B P C M)) + wrap64 (wrap64 (4 * wrap64 (1 + f)) * P)), (0 : Int)) = _
      have d1 : recsOf P S W n = 6 + rew P S n + 4 * up (dataOf P S W n) P := rfl
      rw [wr (show -9223372036854775808 ≤ 2 * P by omega) (by omega), wr (show -9223372036854775808 ≤ dataOf P S W n + 2 * P by omega) (by omega), wr (show -9223372036854775808 ≤ 4 * (dataOf P S W n + 2 * P) by omega) (by omega),
        wr (show -9223372036854775808 ≤ 6 + rew P S n by omega) (by omega), wr (show -9223372036854775808 ≤ 4 * up (dataOf P S W n) P by omega) (by omega), wr (show -9223372036854775808 ≤ 6 + rew P S n + 4 * up (dataOf P S W n) P by omega) (by omega), ← d1,
        wr (show -9223372036854775808 ≤ 2 * recsOf P S W n by omega) (by omega), wr (show -9223372036854775808 ≤ 2 * recsOf P S W n * recPages B P C S by omega) (by omega), wr (show -9223372036854775808 ≤ 4 * (dataOf P S W n + 2 * P) + 2 * recsOf P S W n * recPages B P C S by omega) (by omega),
        wr (show -9223372036854775808 ≤ 2 * snapPages B P C M by omega) (by omega), wr (show -9223372036854775808 ≤ 4 * (dataOf P S W n + 2 * P) + 2 * recsOf P S W n * recPages B P C S + 2 * snapPages B P C M by omega) (by omega),
        wr (show -9223372036854775808 ≤ 1 + f by omega) (by omega), wr (show -9223372036854775808 ≤ 4 * (1 + f) by omega) (by omega), wr (show -9223372036854775808 ≤ 4 * (1 + f) * P by omega) (by omega), wr (by omega) (by omega)]
      unfold progR
      rw [if_pos ⟨hg.1, hg.2.1, hg.2.2, hf.1, hf.2⟩]; rfl
    · rw [decide_eq_false hf]
      exact out _ (fun h => hf h.2.2.2)
  · have e : rewR B P C S M W n = (0, 1) := by unfold rewR; rw [if_neg hg]
    rw [e]
    exact Ev.congr (fun k => by rw [if_neg (by decide)]) (out _ (fun h => hg ⟨h.1, h.2.1, h.2.2.1⟩))

theorem awake_true : Ev (fun k => ferrulelaw16_awake.f k) true := Ev.of (fun k => ferrulelaw16_awake.mono k) (k := 600) (by decide +kernel)

/-! ### The reference -/
theorem rlen_tab : (List.range 4200).all (fun n => decide (ferruleref16_l.f 5 (n : Int) = some (ln (n : Int)))) = true := by decide +kernel
theorem rlen_ev (n : Int) (h0 : 0 ≤ n) (h1 : n < 4200) : Ev (fun k => ferruleref16_l.f k n) (ln n) := by
  refine Ev.of (fun k => ferruleref16_l.mono n k) (k := 5) ?_
  have h := List.all_eq_true.1 rlen_tab n.toNat (List.mem_range.2 (by omega))
  have h2 := of_decide_eq_true h
  rwa [Int.toNat_of_nonneg h0] at h2
theorem rpages_ev {n : Int} (h0 : 0 ≤ n) (h1 : n ≤ 4000) : Ev (fun k => ferruleref12_Pages.f k n) (pg n) := by
  refine Ev.congr (f := fun k => ferruleref12_Pages.j0 k n false) (fun k => by rw [ferruleref12_Pages.f, if_neg (by omega), decide_eq_false (by omega)]) ?_
  refine Ev.step (f := fun _ => some (pg n)) (fun k => ?_) (Ev.now _)
  simp only [ferruleref12_Pages.j0, Bool.false_eq_true, if_false]
  unfold pg
  by_cases c : n = 0
  · rw [if_pos c, if_pos (by omega)]
  · rw [if_neg c, if_neg (by omega), wr (show -9223372036854775808 ≤ n + 32 by omega) (by omega), wr (show -9223372036854775808 ≤ n + 32 - 1 by omega) (by omega), tdiv_of (by omega), wr (by omega) (by omega)]
    congr 2
    omega
theorem rup_eq {a b : Int} (h0 : 0 ≤ a) (h1 : a ≤ 1000000) (hb : 1 ≤ b) (hb2 : b ≤ 1000000) : ferruleref16_Up.f a b = some (up a b) := up_eq h0 h1 hb hb2
theorem rspan_eq (B P C S M W : Int) (fl : Bool) : ferruleref16_Span.f B P C S M W fl = some (decide (spanned B P C S M W)) := by
  have no : ∀ (h : ¬ spanned B P C S M W), some false = some (decide (spanned B P C S M W)) := fun h => by rw [decide_eq_false h]
  unfold ferruleref16_Span.f
  by_cases c1 : B < 8
  · rw [if_pos c1]; exact no (fun h => by have := h.1; omega)
  by_cases c2 : B > 64
  · rw [if_neg c1, if_pos c2]; exact no (fun h => by have := h.2.1; omega)
  by_cases c3 : P < 4
  · rw [if_neg c1, if_neg c2, if_pos c3]; exact no (fun h => by have := h.2.2.1; omega)
  by_cases c4 : P > 32
  · rw [if_neg c1, if_neg c2, if_neg c3, if_pos c4]; exact no (fun h => by have := h.2.2.2.1; omega)
  by_cases c5 : S < 0
  · rw [if_neg c1, if_neg c2, if_neg c3, if_neg c4, if_pos c5]; exact no (fun h => by have := h.2.2.2.2.1; omega)
  by_cases c6 : S > 4
  · rw [if_neg c1, if_neg c2, if_neg c3, if_neg c4, if_neg c5, if_pos c6]; exact no (fun h => by have := h.2.2.2.2.2.1; omega)
  by_cases c7 : C < 1
  · rw [if_neg c1, if_neg c2, if_neg c3, if_neg c4, if_neg c5, if_neg c6, if_pos c7]; exact no (fun h => by have := h.2.2.2.2.2.2.1; omega)
  by_cases c8 : C > 512
  · rw [if_neg c1, if_neg c2, if_neg c3, if_neg c4, if_neg c5, if_neg c6, if_neg c7, if_pos c8]; exact no (fun h => by have := h.2.2.2.2.2.2.2.1; omega)
  rw [if_neg c1, if_neg c2, if_neg c3, if_neg c4, if_neg c5, if_neg c6, if_neg c7, if_neg c8]
  by_cases d1 : W ≥ 1
  · by_cases d2 : W ≤ P
    · by_cases d3 : W ≤ C
      · by_cases d4 : M ≥ 1
        · rw [if_pos d1, if_pos d2, if_pos d3, if_pos d4]
          congr 1
          by_cases d5 : M ≤ 512
          · rw [decide_eq_true d5]; exact (decide_eq_true (show spanned B P C S M W from ⟨by omega, by omega, by omega, by omega, by omega, by omega, by omega, by omega, d1, d2, d3, d4, d5⟩)).symm
          · rw [decide_eq_false d5]; exact (decide_eq_false (fun h : spanned B P C S M W => d5 h.2.2.2.2.2.2.2.2.2.2.2.2)).symm
        · rw [if_pos d1, if_pos d2, if_pos d3, if_neg d4]; exact no (fun h => by have := h.2.2.2.2.2.2.2.2.2.2.2.1; omega)
      · rw [if_pos d1, if_pos d2, if_neg d3]; exact no (fun h => by have := h.2.2.2.2.2.2.2.2.2.2.1; omega)
    · rw [if_pos d1, if_neg d2]; exact no (fun h => by have := h.2.2.2.2.2.2.2.2.2.1; omega)
  · rw [if_neg d1]; exact no (fun h => by have := h.2.2.2.2.2.2.2.2.1; omega)
def ofT1 (B P C S M W : Int) : T11 :=
  (runBytes B P C, snapPages B P C M, opsMost P C S, opBytes B P C, recPages B P C S, logPages B P C S M, epochBlocks B P C S M, metaBlocks B P C S M, up C W, slack P C S, mountReads B P C S M)

theorem rof_ev {B P C S M W : Int} (fl : Bool) (h : spanned B P C S M W) : Ev (fun k => ferruleref16_Of.f k B P C S M W fl) (ofT1 B P C S M W) := by
  obtain ⟨bp, rb, mrb, sp, om, ob, oo, rp, lp, eb, us, uc, uw, pe⟩ := facts h
  obtain ⟨b0, b1, p0, p1, s0, s1, c0, c1, w0, w1, w2, m0, m1⟩ := h
  have l1 := ln_range C
  have l2 := ln_range (2 * (B * P) + 1)
  have l3 := ln_range M
  have l4 := ln_range (2 * C + 1)
  have l5 := ln_range (2 * (B * P) + 3)
  have l6 := ln_range (opsMost P C S)
  have e1 : wrap64 (B * P) = B * P := wr (by omega) (by omega)
  have e2 : wrap64 (2 * (B * P)) = 2 * (B * P) := wr (by omega) (by omega)
  have e3 : wrap64 (2 * (B * P) + 1) = 2 * (B * P) + 1 := wr (by omega) (by omega)
  have e4 : wrap64 (2 * ln C) = 2 * ln C := wr (by omega) (by omega)
  have e5 : wrap64 (2 * ln C + ln (2 * (B * P) + 1)) = runBytes B P C := wr (by omega) (by omega)
  have e6 : wrap64 (M * runBytes B P C) = M * runBytes B P C := wr (by omega) (by omega)
  have e7 : wrap64 (ln M + M * runBytes B P C) = ln M + M * runBytes B P C := wr (by omega) (by omega)
  have e8 : wrap64 (4 + S) = 4 + S := wr (by omega) (by omega)
  have e10 : wrap64 (2 * C) = 2 * C := wr (by omega) (by omega)
  have e11 : wrap64 (2 * C + 1) = 2 * C + 1 := wr (by omega) (by omega)
  have e12 : wrap64 (2 * (B * P) + 3) = 2 * (B * P) + 3 := wr (by omega) (by omega)
  have e13 : wrap64 (ln (2 * C + 1) + ln C) = ln (2 * C + 1) + ln C := wr (by omega) (by omega)
  have e14 : wrap64 (ln (2 * C + 1) + ln C + ln (2 * (B * P) + 3)) = opBytes B P C := wr (by omega) (by omega)
  have e15 : wrap64 (opsMost P C S * opBytes B P C) = opsMost P C S * opBytes B P C := wr (by omega) (by omega)
  have e16 : wrap64 (ln (opsMost P C S) + opsMost P C S * opBytes B P C) = ln (opsMost P C S) + opsMost P C S * opBytes B P C := wr (by omega) (by omega)
  have e17 : wrap64 (2 * recPages B P C S) = 2 * recPages B P C S := wr (by omega) (by omega)
  have e18 : wrap64 (2 * recPages B P C S + P) = 2 * recPages B P C S + P := wr (by omega) (by omega)
  have e19 : wrap64 (2 * recPages B P C S + P + snapPages B P C M) = logPages B P C S M := wr (by unfold logPages at lp; omega) (by unfold logPages at lp; omega)
  have e20 : wrap64 (snapPages B P C M + logPages B P C S M) = snapPages B P C M + logPages B P C S M := wr (by omega) (by omega)
  have e21 : wrap64 (epochBlocks B P C S M + up (snapPages B P C M) P) = epochBlocks B P C S M + up (snapPages B P C M) P := wr (by omega) (by omega)
  have e22 : wrap64 (epochBlocks B P C S M + up (snapPages B P C M) P + 3) = metaBlocks B P C S M := wr (by omega) (by omega)
  have e23 : wrap64 (up C P + 8) = up C P + 8 := wr (by omega) (by omega)
  have e24 : wrap64 (4 * S) = 4 * S := wr (by omega) (by omega)
  have e25 : wrap64 (up C P + 8 + 4 * S) = slack P C S := wr (by omega) (by omega)
  have e26 : wrap64 (2 * P) = 2 * P := wr (by omega) (by omega)
  have e27 : wrap64 (epochBlocks B P C S M + 2) = epochBlocks B P C S M + 2 := wr (by omega) (by omega)
  have e28 : wrap64 (epochBlocks B P C S M + 2 + S) = epochBlocks B P C S M + 2 + S := wr (by omega) (by omega)
  have e29 : wrap64 (2 * P * (epochBlocks B P C S M + 2 + S)) = 2 * P * (epochBlocks B P C S M + 2 + S) := wr (by omega) (by omega)
  have e30 : wrap64 (B + 2 * P * (epochBlocks B P C S M + 2 + S)) = mountReads B P C S M := wr (by omega) (by omega)
  have q3 : ferruleref16_Up.f C P = some (up C P) := rup_eq (by omega) (by omega) (by omega) (by omega)
  have q4 : ferruleref16_Up.f (snapPages B P C M + logPages B P C S M) P = some (epochBlocks B P C S M) := rup_eq (by omega) (by omega) (by omega) (by omega)
  have q5 : ferruleref16_Up.f (snapPages B P C M) P = some (up (snapPages B P C M) P) := rup_eq (by omega) (by omega) (by omega) (by omega)
  have q6 : ferruleref16_Up.f C W = some (up C W) := rup_eq (by omega) (by omega) (by omega) (by omega)
  have key : Ev (fun k => ferruleref16_Of.j0 k (B * P) B P C S M W fl (runBytes B P C) (snapPages B P C M) (opsMost P C S) 0 0 0 0 0 0 0 0) (ofT1 B P C S M W) := by
    refine Ev.step (fun k => by simp only [ferruleref16_Of.j0]; rfl) ?_
    rw [e10, e11]
    refine Ev.bind (rlen_ev _ (by omega) (by omega)) ?_
    refine Ev.bind (rlen_ev _ (by omega) (by omega)) ?_
    rw [e2, e12]
    refine Ev.bind (rlen_ev _ (by omega) (by omega)) ?_
    refine Ev.bind (rlen_ev _ (by omega) (by omega)) ?_
    rw [e13, e14, e15, e16]
    refine Ev.bind (rpages_ev (by omega) (by omega)) ?_
    show Ev (fun k => (ferruleref16_Up.f (wrap64 (snapPages B P C M + (wrap64 ((wrap64 ((wrap64 (2 * recPages B P C S)) + P)) + snapPages B P C M)))) P).bind _) _
    rw [e17, e18, e19, e20, q4, q5, q6, q3]
    simp only [Option.bind_some]
    rw [e21, e22, e23, e24, e25, e26, e27, e28, e29, e30]
    refine Ev.congr (fun k => ?_) (Ev.now (ofT1 B P C S M W))
    rw [show pg (ln (opsMost P C S) + opsMost P C S * opBytes B P C) = recPages B P C S from rfl, e17, e18, e19]
    rfl
  refine Ev.congr (fun k => by rw [ferruleref16_Of.f]) ?_
  refine Ev.bind (rlen_ev C (by omega) (by omega)) ?_
  rw [e1, e2, e3]
  refine Ev.bind (rlen_ev _ (by omega) (by omega)) ?_
  refine Ev.bind (rlen_ev M (by omega) (by omega)) ?_
  rw [e4, e5, e6, e7]
  refine Ev.bind (rpages_ev (by omega) (by omega)) ?_
  rw [q3]
  simp only [Option.bind_some]
  rw [e8]
  by_cases c : up C P > P
  · have eo : wrap64 (4 + S + up C P) = opsMost P C S := by unfold opsMost; rw [wr (by omega) (by omega)]; omega
    exact Ev.congr (fun k => by rw [if_pos c, eo]; rfl) key
  · have eo : wrap64 (4 + S + P) = opsMost P C S := by unfold opsMost; rw [wr (by omega) (by omega)]; omega
    exact Ev.congr (fun k => by rw [if_neg c, eo]; rfl) key

theorem rgood_ev (B P C S M W : Int) (fl : Bool) : Ev (fun k => ferruleref16_Good.f k B P C S M W fl) (decide (good B P C S M W)) := by
  refine Ev.congr (fun k => by rw [ferruleref16_Good.f, rspan_eq]) ?_
  simp only [Option.bind_some]
  by_cases hs : spanned B P C S M W
  · obtain ⟨w1, w2, w3, w4⟩ := good_wraps hs
    rw [decide_eq_true hs]
    refine Ev.congr (fun k => by rw [if_pos rfl]) ?_
    refine Ev.bind (rof_ev fl hs) ?_
    refine Ev.congr (f := fun _ => some (decide (good B P C S M W))) (fun k => ?_) (Ev.now _)
    show (if M ≥ wrap64 (wrap64 (4 * up C W) + slack P C S) then (if wrap64 (3 * C) ≤ wrap64 (wrap64 (wrap64 (wrap64 (B - S) - metaBlocks B P C S M) - 8) * P) then some (decide (mountReads B P C S M < wrap64 (B * P))) else some false) else some false) = _
    rw [w1, w2, w3, w4]
    by_cases g1 : M ≥ 4 * up C W + slack P C S
    · rw [if_pos g1]
      by_cases g2 : 3 * C ≤ (B - S - metaBlocks B P C S M - 8) * P
      · rw [if_pos g2]
        congr 1
        by_cases g3 : mountReads B P C S M < B * P
        · rw [decide_eq_true g3]; exact (decide_eq_true ⟨hs, g1, g2, g3⟩).symm
        · rw [decide_eq_false g3]; exact (decide_eq_false (fun h => g3 h.2.2.2)).symm
      · rw [if_neg g2]; congr 1; exact (decide_eq_false (fun h => g2 h.2.2.1)).symm
    · rw [if_neg g1]; congr 1; exact (decide_eq_false (fun h => g1 h.2.1)).symm
  · rw [decide_eq_false hs, decide_eq_false (fun h : good B P C S M W => hs h.1)]
    exact Ev.congr (fun k => by rw [if_neg (by decide)]) (Ev.now _)

theorem rrew_eq {B P C S M W n : Int} (fl : Bool) (hs : spanned B P C S M W) (hn : 1 ≤ n ∧ n ≤ C) : ferruleref16_Rewrites.f B P C S M W fl n = some (rew P S n) := by
  obtain ⟨b0, b1, p0, p1, s0, s1, c0, c1, w0, w1, w2, m0, m1⟩ := hs
  have u := up_range (show 0 ≤ n by omega) (show 1 ≤ P by omega)
  unfold ferruleref16_Rewrites.f
  rw [rup_eq (by omega) (by omega) (by omega) (by omega)]
  simp only [Option.bind_some]
  rw [wr (show -9223372036854775808 ≤ up n P + 3 by omega) (by omega), wr (show -9223372036854775808 ≤ 2 * S by omega) (by omega), wr (show -9223372036854775808 ≤ up n P + 3 + 2 * S by omega) (by omega)]
  rfl
theorem rprog_ev {B P C S M W n f : Int} (fl : Bool) (hs : spanned B P C S M W) (hn : 1 ≤ n ∧ n ≤ C) (hf : 0 ≤ f ∧ f ≤ 1000) : Ev (fun k => ferruleref16_CallPrograms.f k B P C S M W fl n f) (progs B P C S M W n f) := by
  obtain ⟨rw_, rww, dt, ud, rc, rr, fp⟩ := pfacts (f := f) hs hn hf
  have hs' := hs
  obtain ⟨bp, rb, mrb, sp, om, ob, oo, rp, lp, eb, us, uc, uw, pe⟩ := facts hs
  obtain ⟨b0, b1, p0, p1, s0, s1, c0, c1, w0, w1, w2, m0, m1⟩ := hs
  refine Ev.congr (fun k => by rw [ferruleref16_CallPrograms.f]) ?_
  refine Ev.bind (rof_ev fl hs') ?_
  refine Ev.congr (f := fun _ => some (progs B P C S M W n f)) (fun k => ?_) (Ev.now _)
  rw [rrew_eq fl hs' hn]
  simp only [Option.bind_some]
  have a1 : wrap64 (rew P S n * W) = rew P S n * W := wr (by omega) (by omega)
  have a2 : wrap64 (n + rew P S n * W) = dataOf P S W n := wr (by unfold dataOf at dt; omega) (by unfold dataOf at dt; omega)
  rw [a1, a2, rup_eq (by omega) (by omega) (by omega) (by omega)]
  simp only [Option.bind_some]
  show some (wrap64 (wrap64 (wrap64 (wrap64 (4 * wrap64 (dataOf P S W n + wrap64 (2 * P))) + wrap64 (wrap64 (2 * wrap64 (wrap64 (6 + rew P S n) + wrap64 (4 * up (dataOf P S W n) P))) * recPages B P C S)) + wrap64 (2 * snapPages B P C M)) + wrap64 (wrap64 (4 * wrap64 (1 + f)) * P))) = _
  have d1 : recsOf P S W n = 6 + rew P S n + 4 * up (dataOf P S W n) P := rfl
  rw [wr (show -9223372036854775808 ≤ 2 * P by omega) (by omega), wr (show -9223372036854775808 ≤ dataOf P S W n + 2 * P by omega) (by omega), wr (show -9223372036854775808 ≤ 4 * (dataOf P S W n + 2 * P) by omega) (by omega),
    wr (show -9223372036854775808 ≤ 6 + rew P S n by omega) (by omega), wr (show -9223372036854775808 ≤ 4 * up (dataOf P S W n) P by omega) (by omega), wr (show -9223372036854775808 ≤ 6 + rew P S n + 4 * up (dataOf P S W n) P by omega) (by omega), ← d1,
    wr (show -9223372036854775808 ≤ 2 * recsOf P S W n by omega) (by omega), wr (show -9223372036854775808 ≤ 2 * recsOf P S W n * recPages B P C S by omega) (by omega), wr (show -9223372036854775808 ≤ 4 * (dataOf P S W n + 2 * P) + 2 * recsOf P S W n * recPages B P C S by omega) (by omega),
    wr (show -9223372036854775808 ≤ 2 * snapPages B P C M by omega) (by omega), wr (show -9223372036854775808 ≤ 4 * (dataOf P S W n + 2 * P) + 2 * recsOf P S W n * recPages B P C S + 2 * snapPages B P C M by omega) (by omega),
    wr (show -9223372036854775808 ≤ 1 + f by omega) (by omega), wr (show -9223372036854775808 ≤ 4 * (1 + f) by omega) (by omega), wr (show -9223372036854775808 ≤ 4 * (1 + f) * P by omega) (by omega), wr (by omega) (by omega)]
  rfl

theorem tail_ev (B P C S M W n f : Int) (fl : Bool) : Ev (fun k => ferrulelaw16_SizeTells.j0 k n f B P C S M W fl) true := by
  refine Ev.step (fun k => by simp only [ferrulelaw16_SizeTells.j0]; rfl) ?_
  refine Ev.bind (rgood_ev B P C S M W fl) ?_
  refine Ev.bind (rew_ev B P C S M W n fl) ?_
  refine Ev.bind (prog_ev B P C S M W n f fl) ?_
  refine Ev.bind (good_ev B P C S M W fl) ?_
  refine Ev.congr (fun k => by rw [if_neg (by simp)]) ?_
  have no : ∀ (h : ¬ (good B P C S M W ∧ 1 ≤ n ∧ n ≤ C)), Ev (fun k => ferrulelaw16_SizeTells.j1 k n f (rewR B P C S M W n).1 (rewR B P C S M W n).2 (progR B P C S M W n f).1 (progR B P C S M W n f).2 true B P C S M W fl) true := by
    intro h
    have e1 : rewR B P C S M W n = (0, 1) := by unfold rewR; rw [if_neg h]
    have e2 : progR B P C S M W n f = (0, 1) := by unfold progR; rw [if_neg (fun q => h ⟨q.1, q.2.1, q.2.2.1⟩)]
    rw [e1, e2]
    exact Ev.step (f := fun _ => some true) (fun k => by simp [ferrulelaw16_SizeTells.j1]) (Ev.now _)
  by_cases hg : good B P C S M W
  · rw [decide_eq_true hg]
    refine Ev.congr (fun k => by rw [if_pos rfl]) ?_
    by_cases c1 : n < 1
    · exact Ev.congr (fun k => by rw [if_pos c1]) (no (by omega))
    refine Ev.congr (fun k => by rw [if_neg c1]) ?_
    by_cases c2 : n > C
    · rw [decide_eq_true c2]; exact no (by omega)
    rw [decide_eq_false c2]
    have e1 : rewR B P C S M W n = (rew P S n, 0) := by unfold rewR; rw [if_pos ⟨hg, by omega, by omega⟩]
    rw [e1]
    refine Ev.step (f := fun k => ferrulelaw16_SizeTells.j2 k n f (progR B P C S M W n f).1 (progR B P C S M W n f).2 false B P C S M W fl) (fun k => ?_) ?_
    · simp only [ferrulelaw16_SizeTells.j1, Bool.false_eq_true, if_false]
      rw [if_pos trivial, rrew_eq fl hg.1 (by omega)]
      simp
    by_cases c3 : 0 ≤ f ∧ f ≤ 1000
    · have e2 : progR B P C S M W n f = (progs B P C S M W n f, 0) := by unfold progR; rw [if_pos ⟨hg, by omega, by omega, c3.1, c3.2⟩]
      rw [e2]
      refine Ev.step (f := fun k => (ferruleref16_CallPrograms.f k B P C S M W fl n f).bind fun t323 => (some (progs B P C S M W n f == t323))) (fun k => ?_) ?_
      · simp only [ferrulelaw16_SizeTells.j2, Bool.false_eq_true, if_false]
        rw [if_neg (by omega), if_neg (by omega), if_pos trivial]
      refine Ev.bind (rprog_ev fl hg.1 (by omega) c3) ?_
      refine Ev.congr (fun k => ?_) (Ev.now true)
      simp
    · have e2 : progR B P C S M W n f = (0, 1) := by unfold progR; rw [if_neg (fun q => c3 ⟨q.2.2.2.1, q.2.2.2.2⟩)]
      rw [e2]
      refine Ev.step (f := fun _ => some true) (fun k => ?_) (Ev.now _)
      simp only [ferrulelaw16_SizeTells.j2, Bool.false_eq_true, if_false]
      by_cases c4 : f < 0
      · rw [if_pos c4]; rfl
      · rw [if_neg c4, if_pos (by omega)]; rfl
  · rw [decide_eq_false hg]
    exact Ev.congr (fun k => by rw [if_neg (by decide)]) (no (fun h => hg h.1))

theorem is_eq (a : T11) : ferrulelaw16_is.f a.1 a.2.1 a.2.2.1 a.2.2.2.1 a.2.2.2.2.1 a.2.2.2.2.2.1 a.2.2.2.2.2.2.1 a.2.2.2.2.2.2.2.1 a.2.2.2.2.2.2.2.2.1 a.2.2.2.2.2.2.2.2.2.1 a.2.2.2.2.2.2.2.2.2.2 a.1 a.2.1 a.2.2.1 a.2.2.2.1 a.2.2.2.2.1 a.2.2.2.2.2.1 a.2.2.2.2.2.2.1 a.2.2.2.2.2.2.2.1 a.2.2.2.2.2.2.2.2.1 a.2.2.2.2.2.2.2.2.2.1 a.2.2.2.2.2.2.2.2.2.2 = some true := by
  unfold ferrulelaw16_is.f
  simp

theorem SizeTells : ferrulelaw16_SizeTells.Pure := by
  intro B P C S M W fl n f _ _ _ _ _ _ _ _
  refine Ev.rounds (g := fun k => ferrulelaw16_SizeTells.f k B P C S M W fl n f) (r := true) ?_
  refine Ev.congr (fun k => by rw [ferrulelaw16_SizeTells.f]) ?_
  refine Ev.bind awake_true ?_
  refine Ev.congr (fun k => by rw [if_pos rfl]) ?_
  refine Ev.bind (of_ev B P C S M W fl) ?_
  rw [rspan_eq]
  simp only [Option.bind_some]
  by_cases hs : spanned B P C S M W
  · have e : ofR B P C S M W = ofT B P C S M W := by unfold ofR; rw [if_pos hs]
    rw [e, decide_eq_true hs]
    refine Ev.congr (fun k => by rw [if_pos rfl]) ?_
    refine Ev.congr (fun k => by rw [if_pos (show (ofT B P C S M W).2.2.2.2.2.2.2.2.2.2.2 = 0 from rfl)]) ?_
    refine Ev.bind (rof_ev fl hs) ?_
    have hi := is_eq (ofT1 B P C S M W)
    refine Ev.congr (f := fun k => ferrulelaw16_SizeTells.j0 k n f B P C S M W fl) (fun k => ?_) (tail_ev B P C S M W n f fl)
    show (ferrulelaw16_is.f (ofT1 B P C S M W).1 (ofT1 B P C S M W).2.1 (ofT1 B P C S M W).2.2.1 (ofT1 B P C S M W).2.2.2.1 (ofT1 B P C S M W).2.2.2.2.1 (ofT1 B P C S M W).2.2.2.2.2.1 (ofT1 B P C S M W).2.2.2.2.2.2.1 (ofT1 B P C S M W).2.2.2.2.2.2.2.1 (ofT1 B P C S M W).2.2.2.2.2.2.2.2.1 (ofT1 B P C S M W).2.2.2.2.2.2.2.2.2.1 (ofT1 B P C S M W).2.2.2.2.2.2.2.2.2.2 (ofT1 B P C S M W).1 (ofT1 B P C S M W).2.1 (ofT1 B P C S M W).2.2.1 (ofT1 B P C S M W).2.2.2.1 (ofT1 B P C S M W).2.2.2.2.1 (ofT1 B P C S M W).2.2.2.2.2.1 (ofT1 B P C S M W).2.2.2.2.2.2.1 (ofT1 B P C S M W).2.2.2.2.2.2.2.1 (ofT1 B P C S M W).2.2.2.2.2.2.2.2.1 (ofT1 B P C S M W).2.2.2.2.2.2.2.2.2.1 (ofT1 B P C S M W).2.2.2.2.2.2.2.2.2.2).bind _ = _
    rw [hi]
    simp only [Option.bind_some]
    rw [if_pos trivial]
  · have e : ofR B P C S M W = (0, 0, 0, 0, 0, 0, 0, 0, 0, 0, 0, 1) := by unfold ofR; rw [if_neg hs]
    rw [e, decide_eq_false hs]
    refine Ev.congr (f := fun k => (size_Good.f k B P C S M W fl).bind fun t315 => (if t315 = true then (some false) else (ferrulelaw16_SizeTells.j0 k n f B P C S M W fl))) (fun k => ?_) ?_
    · rw [if_neg (by decide), if_pos rfl, if_neg (by decide)]
    refine Ev.bind (good_ev B P C S M W fl) ?_
    rw [decide_eq_false (fun h : good B P C S M W => hs h.1)]
    exact Ev.congr (fun k => by rw [if_neg (by decide)]) (tail_ev B P C S M W n f fl)


end Go.Proofs.Ytbeaekknpejnlaa.Pure
