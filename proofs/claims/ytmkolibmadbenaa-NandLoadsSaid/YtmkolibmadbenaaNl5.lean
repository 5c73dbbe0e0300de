/- Functions of the flash, walked. Conditions: those of each theorem. -/
import Derived.Test.YtmkolibmadbenaaAm5
import Derived.Test.YtmkolibmadbenaaNl3
namespace Go.Proofs.Ytmkolibmadbenaa.Am
open Go.Proofs
set_option maxRecDepth 1000000
set_option maxHeartbeats 4000000
set_option linter.unusedSimpArgs false
set_option linter.unusedVariables false
def rtSl (b p n c sz : Nat) (q : Bool) (k : Nat) : List (Nat × V) := [(0, .i .i64 b), (1, .i .i64 p), (2, .sl (some (0,0)) n c q), (7, .i .i64 sz), (8, .i .i64 k)]
abbrev imM (I : List Int) : List (Option Blk) := [some ⟨cellsR (rwI .u8) I, 5, false⟩]
abbrev RtY (b p n c sz : Nat) (q : Bool) (I : List Int) (k : Nat) : Ex → T V → LH → Prop := fun x t' h' => x = .n ∧ Seen 1 t' h' (rtSl b p n c sz q (k + 1)) (imM I)
abbrev RtN (I : List Int) : Ex → T V → LH → Prop := fun x t' h' => x = .r ∧ ∃ v, resV tb t' h' (Try.f30).results.toList = some v ∧ ∃ M', h' = mem 0 M' ∧ v = .b false ∧ M' = imM I
theorem rt_ok0 (b p W n c sz o : Nat) (q : Bool) (I : List Int) (h2 : b ≤ 64) (h4 : p ≤ 32) (hbW : (b : Int) * sz = (W : Int)) (hW : W ≤ 680000) (hsz : sz = p * 68) (h : n = W + 2 * b) (hI : I.length = n) (hB : BytF I W) (k : Nat) (hk : k < b) (ho : (k : Int) * sz = (o : Int)) (ho3 : o + sz ≤ W) (hfl : fgI I W k = 0) (hxp : nxI I W k ≤ p) (hA : allB I (o + (nxI I W k).toNat * 68) ((p - (nxI I W k).toNat) * 68) 255 = true) :
    WS Try.prog (frameN Try.f30 3) 1 [.c (k1 (k1 (k2 (k1 (k2 (k2 (k2 (kb Try.f30))))))))] (slt (rtSl b p n c sz q k)) (mem 0 (imM I)) (RtY b p n c sz q I k) := by
  have g1 : I[W + 2 * k]? = some (fgI I W k) := getD_get (by omega)
  have g2 : I[W + 2 * k + 1]? = some (nxI I W k) := getD_get (by omega)
  have hf := hB _ _ (by omega) g1
  have hn := hB _ _ (by omega) g2
  have hx1 : (W : Int) + 2 * (k : Int) = ((W + 2 * k : Nat) : Int) := by omega
  have hx2 : (W : Int) + 2 * (k : Int) + 1 = ((W + 2 * k + 1 : Nat) : Int) := by omega
  obtain ⟨x, hx⟩ : ∃ x : Nat, nxI I W k = x := ⟨(nxI I W k).toNat, by omega⟩
  rw [hx] at g2 hn
  obtain ⟨s, hs⟩ : ∃ s : Nat, (x : Int) * 68 = (s : Int) := ⟨x * 68, by omega⟩
  rw [hx] at hA hxp
  rw [Int.toNat_natCast, show x * 68 = s by omega, show (p - x) * 68 = sz - s by omega] at hA
  rw [hfl] at g1
  simp only [rtSl]
  iterate 2 refine jq ?_
  refine jg ?_
  iterate 2 refine jo ?_
  refine jDT ?_
  refine je ?_
  refine WS.pcondT rfl rfl ?_
  refine WS.pskip rfl ?_
  refine jq ?_
  refine WS.pblock rfl ?_
  refine jq ?_
  refine jg ?_
  iterate 3 refine jo ?_
  refine WS.po (tb := tb) rfl rfl rfl rfl (step_P (evP_mulV rfl rfl rfl (by assumption) (by simp only [lo]; omega) (by simp only [Am.hi]; omega))) ?_
  refine jo ?_
  refine jW ?_
  refine WS.po (tb := tb) rfl rfl rfl rfl (step_P (evP_addV rfl rfl rfl (by assumption) (by simp only [lo]; omega) (by simp only [Am.hi]; omega))) ?_
  refine jI ?_
  refine WS.po (tb := tb) rfl rfl rfl rfl (step_R rfl (evR_load rfl rfl rfl rfl (cellsI_get g1))) ?_
  refine jo ?_
  refine je ?_
  refine jq ?_
  refine jg ?_
  iterate 3 refine jo ?_
  refine WS.po (tb := tb) rfl rfl rfl rfl (step_P (evP_mulV rfl rfl rfl (by assumption) (by simp only [lo]; omega) (by simp only [Am.hi]; omega))) ?_
  refine jo ?_
  refine jW ?_
  refine WS.po (tb := tb) rfl rfl rfl rfl (step_P (evP_addV rfl rfl rfl (by assumption) (by simp only [lo]; omega) (by simp only [Am.hi]; omega))) ?_
  refine WS.po (tb := tb) rfl rfl rfl rfl (step_P (evP_addV rfl rfl rfl (by assumption) (by simp only [lo]; omega) (by simp only [Am.hi]; omega))) ?_
  refine jI ?_
  refine WS.po (tb := tb) rfl rfl rfl rfl (step_R rfl (evR_load rfl rfl rfl rfl (cellsI_get g2))) ?_
  refine jW ?_
  refine jo ?_
  refine je ?_
  refine jq ?_
  refine jg ?_
  iterate 2 refine jo ?_
  refine jB false ?_
  refine jo ?_
  refine je ?_
  iterate 2 refine jq ?_
  refine jg ?_
  refine jo ?_
  refine jB false ?_
  iterate 3 refine jo ?_
  refine jDF ?_
  iterate 4 refine jo ?_
  iterate 2 refine jN ?_
  iterate 2 refine jo ?_
  refine je ?_
  refine WS.pcondF rfl rfl ?_
  refine WS.pskip rfl ?_
  refine jq ?_
  refine jg ?_
  refine jo ?_
  refine WS.po (tb := tb) rfl rfl rfl rfl (step_P (evP_mulV rfl rfl rfl (by assumption) (by simp only [lo]; omega) (by simp only [Am.hi]; omega))) ?_
  refine jo ?_
  refine je ?_
  refine WS.pblock rfl ?_
  refine WS.ploopI (σ := Nat) (τ := Unit) (fun i => [(0, .i .i64 b), (1, .i .i64 p), (2, .sl (some (0,0)) n c q), (7, .i .i64 sz), (8, .i .i64 k), (11, .b false), (12, .i .i64 i)]) (fun _ => imM I) (fun i => s ≤ i ∧ i ≤ sz ∧ allB I (o + s) (i - s) 255 = true) (fun i => sz - i)
    (fun _ => [(0, .i .i64 b), (1, .i .i64 p), (2, .sl (some (0,0)) n c q), (7, .i .i64 sz), (8, .i .i64 k)]) (fun _ => imM I) (fun _ => True) 2 [0] s rfl ⟨Nat.le_refl _, by omega, by rw [Nat.sub_self]; rfl⟩ (jSb (by simp [jVb, jOb, jMb, mapL_cellsR, okL_cellsR]) (by simp only [jSl, jOb, jMb, Nat.reduceAdd, Nat.reduceLT] <;> exact jClo)) rfl ?_ ?_
  · rintro i ⟨hi1, hi2, hi3⟩
    by_cases hlt : i < sz
    · obtain ⟨y, hy⟩ : ∃ y, I[o + i]? = some y := ⟨_, List.getElem?_eq_getElem (by omega)⟩
      have hoi : (o : Int) + (i : Int) = ((o + i : Nat) : Int) := by omega
      have hsu := allB_succ (xs := I) (o := o + s) (n := i - s) (v := 255) (x := y) (by rw [show o + s + (i - s) = o + i by omega]; exact hy)
      rw [hi3, Bool.true_and, show i - s + 1 = i + 1 - s by omega] at hsu
      have hyv := (allB_iff (by omega)).1 hA (i - s) (by omega)
      rw [show o + s + (i - s) = o + i by omega, hy] at hyv
      obtain rfl := Option.some.inj hyv
      iterate 2 refine jq ?_
      refine jg ?_
      iterate 2 refine jo ?_
      refine jDT ?_
      refine je ?_
      refine WS.pcondT rfl rfl ?_
      refine WS.pskip rfl ?_
      refine jq ?_
      refine WS.pblock rfl ?_
      refine jq ?_
      refine jg ?_
      iterate 3 refine jo ?_
      refine WS.po (tb := tb) rfl rfl rfl rfl (step_P (evP_mulV rfl rfl rfl (by assumption) (by simp only [lo]; omega) (by simp only [Am.hi]; omega))) ?_
      refine jo ?_
      refine WS.po (tb := tb) rfl rfl rfl rfl (step_P (evP_addV rfl rfl rfl (by assumption) (by simp only [lo]; omega) (by simp only [Am.hi]; omega))) ?_
      refine jI ?_
      refine WS.po (tb := tb) rfl rfl rfl rfl (step_R rfl (evR_load rfl rfl rfl rfl (cellsI_get hy))) ?_
      refine jo ?_
      refine je ?_
      refine jq ?_
      refine jg ?_
      iterate 2 refine jo ?_
      iterate 2 refine jN ?_
      iterate 3 refine jo ?_
      refine jB true ?_
      iterate 2 refine jo ?_
      refine jB false ?_
      iterate 2 refine jo ?_
      refine je ?_
      refine WS.pcondF rfl rfl ?_
      refine WS.pskip rfl ?_
      refine jg ?_
      refine jo ?_
      refine jW ?_
      refine jo ?_
      refine je ?_
      refine WS.nil ?_
      exact ⟨i + 1, ⟨by omega, by omega, by rw [hsu]; rfl⟩, by omega, (jSn [0] (by simp [jVb, jOb, jMb, mapL_cellsR, okL_cellsR]) (by simp only [jSl, jOb, jMb, Nat.reduceAdd, Nat.reduceLT] <;> exact jClo))⟩
    · obtain rfl : i = sz := by omega
      iterate 2 refine jq ?_
      refine jg ?_
      iterate 2 refine jo ?_
      refine jDF ?_
      refine je ?_
      refine WS.pcondF rfl rfl ?_
      refine WS.pout rfl rfl ?_
      exact ⟨rfl, (), trivial, (jSn [0] (by simp [jVb, jOb, jMb, mapL_cellsR, okL_cellsR]) (by simp only [jSl, jOb, jMb, Nat.reduceAdd, Nat.reduceLT] <;> exact jClo))⟩
  · rintro _ -
    refine jg ?_
    refine jo ?_
    refine jW ?_
    refine jo ?_
    refine je ?_
    refine WS.nil ?_
    exact ⟨rfl, (jSn [0] (by simp [jVb, jOb, jMb, mapL_cellsR, okL_cellsR, rtSl]) (by simp only [jSl, jOb, jMb, Nat.reduceAdd, Nat.reduceLT, rtSl] <;> exact jClo))⟩
theorem rt_no0 (b p W n c sz o : Nat) (q : Bool) (I : List Int) (h2 : b ≤ 64) (h4 : p ≤ 32) (hbW : (b : Int) * sz = (W : Int)) (hW : W ≤ 680000) (hsz : sz = p * 68) (h : n = W + 2 * b) (hI : I.length = n) (hB : BytF I W) (k : Nat) (hk : k < b) (ho : (k : Int) * sz = (o : Int)) (ho3 : o + sz ≤ W) (hfl : fgI I W k = 0) (hxp : nxI I W k ≤ p) (hA : allB I (o + (nxI I W k).toNat * 68) ((p - (nxI I W k).toNat) * 68) 255 = false) :
    WS Try.prog (frameN Try.f30 3) 1 [.c (k1 (k1 (k2 (k1 (k2 (k2 (k2 (kb Try.f30))))))))] (slt (rtSl b p n c sz q k)) (mem 0 (imM I)) (RtN I) := by
  have g1 : I[W + 2 * k]? = some (fgI I W k) := getD_get (by omega)
  have g2 : I[W + 2 * k + 1]? = some (nxI I W k) := getD_get (by omega)
  have hf := hB _ _ (by omega) g1
  have hn := hB _ _ (by omega) g2
  have hx1 : (W : Int) + 2 * (k : Int) = ((W + 2 * k : Nat) : Int) := by omega
  have hx2 : (W : Int) + 2 * (k : Int) + 1 = ((W + 2 * k + 1 : Nat) : Int) := by omega
  obtain ⟨x, hx⟩ : ∃ x : Nat, nxI I W k = x := ⟨(nxI I W k).toNat, by omega⟩
  rw [hx] at g2 hn
  obtain ⟨s, hs⟩ : ∃ s : Nat, (x : Int) * 68 = (s : Int) := ⟨x * 68, by omega⟩
  rw [hx] at hA hxp
  rw [Int.toNat_natCast, show x * 68 = s by omega, show (p - x) * 68 = sz - s by omega] at hA
  rw [hfl] at g1
  simp only [rtSl]
  iterate 2 refine jq ?_
  refine jg ?_
  iterate 2 refine jo ?_
  refine jDT ?_
  refine je ?_
  refine WS.pcondT rfl rfl ?_
  refine WS.pskip rfl ?_
  refine jq ?_
  refine WS.pblock rfl ?_
  refine jq ?_
  refine jg ?_
  iterate 3 refine jo ?_
  refine WS.po (tb := tb) rfl rfl rfl rfl (step_P (evP_mulV rfl rfl rfl (by assumption) (by simp only [lo]; omega) (by simp only [Am.hi]; omega))) ?_
  refine jo ?_
  refine jW ?_
  refine WS.po (tb := tb) rfl rfl rfl rfl (step_P (evP_addV rfl rfl rfl (by assumption) (by simp only [lo]; omega) (by simp only [Am.hi]; omega))) ?_
  refine jI ?_
  refine WS.po (tb := tb) rfl rfl rfl rfl (step_R rfl (evR_load rfl rfl rfl rfl (cellsI_get g1))) ?_
  refine jo ?_
  refine je ?_
  refine jq ?_
  refine jg ?_
  iterate 3 refine jo ?_
  refine WS.po (tb := tb) rfl rfl rfl rfl (step_P (evP_mulV rfl rfl rfl (by assumption) (by simp only [lo]; omega) (by simp only [Am.hi]; omega))) ?_
  refine jo ?_
  refine jW ?_
  refine WS.po (tb := tb) rfl rfl rfl rfl (step_P (evP_addV rfl rfl rfl (by assumption) (by simp only [lo]; omega) (by simp only [Am.hi]; omega))) ?_
  refine WS.po (tb := tb) rfl rfl rfl rfl (step_P (evP_addV rfl rfl rfl (by assumption) (by simp only [lo]; omega) (by simp only [Am.hi]; omega))) ?_
  refine jI ?_
  refine WS.po (tb := tb) rfl rfl rfl rfl (step_R rfl (evR_load rfl rfl rfl rfl (cellsI_get g2))) ?_
  refine jW ?_
  refine jo ?_
  refine je ?_
  refine jq ?_
  refine jg ?_
  iterate 2 refine jo ?_
  refine jB false ?_
  refine jo ?_
  refine je ?_
  iterate 2 refine jq ?_
  refine jg ?_
  refine jo ?_
  refine jB false ?_
  iterate 3 refine jo ?_
  refine jDF ?_
  iterate 4 refine jo ?_
  iterate 2 refine jN ?_
  iterate 2 refine jo ?_
  refine je ?_
  refine WS.pcondF rfl rfl ?_
  refine WS.pskip rfl ?_
  refine jq ?_
  refine jg ?_
  refine jo ?_
  refine WS.po (tb := tb) rfl rfl rfl rfl (step_P (evP_mulV rfl rfl rfl (by assumption) (by simp only [lo]; omega) (by simp only [Am.hi]; omega))) ?_
  refine jo ?_
  refine je ?_
  refine WS.pblock rfl ?_
  refine WS.ploopI (σ := Nat) (τ := Unit) (fun i => [(0, .i .i64 b), (1, .i .i64 p), (2, .sl (some (0,0)) n c q), (7, .i .i64 sz), (8, .i .i64 k), (11, .b false), (12, .i .i64 i)]) (fun _ => imM I) (fun i => s ≤ i ∧ i ≤ sz ∧ allB I (o + s) (i - s) 255 = true) (fun i => sz - i)
    (fun _ => [(0, .i .i64 b), (1, .i .i64 p), (2, .sl (some (0,0)) n c q), (7, .i .i64 sz), (8, .i .i64 k)]) (fun _ => imM I) (fun _ => False) 2 [0] s rfl ⟨Nat.le_refl _, by omega, by rw [Nat.sub_self]; rfl⟩ (jSb (by simp [jVb, jOb, jMb, mapL_cellsR, okL_cellsR]) (by simp only [jSl, jOb, jMb, Nat.reduceAdd, Nat.reduceLT] <;> exact jClo)) rfl ?_ ?_
  · rintro i ⟨hi1, hi2, hi3⟩
    by_cases hlt : i < sz
    · obtain ⟨y, hy⟩ : ∃ y, I[o + i]? = some y := ⟨_, List.getElem?_eq_getElem (by omega)⟩
      have hoi : (o : Int) + (i : Int) = ((o + i : Nat) : Int) := by omega
      have hsu := allB_succ (xs := I) (o := o + s) (n := i - s) (v := 255) (x := y) (by rw [show o + s + (i - s) = o + i by omega]; exact hy)
      rw [hi3, Bool.true_and, show i - s + 1 = i + 1 - s by omega] at hsu
      by_cases hyv : y = 255
      · subst hyv
        iterate 2 refine jq ?_
        refine jg ?_
        iterate 2 refine jo ?_
        refine jDT ?_
        refine je ?_
        refine WS.pcondT rfl rfl ?_
        refine WS.pskip rfl ?_
        refine jq ?_
        refine WS.pblock rfl ?_
        refine jq ?_
        refine jg ?_
        iterate 3 refine jo ?_
        refine WS.po (tb := tb) rfl rfl rfl rfl (step_P (evP_mulV rfl rfl rfl (by assumption) (by simp only [lo]; omega) (by simp only [Am.hi]; omega))) ?_
        refine jo ?_
        refine WS.po (tb := tb) rfl rfl rfl rfl (step_P (evP_addV rfl rfl rfl (by assumption) (by simp only [lo]; omega) (by simp only [Am.hi]; omega))) ?_
        refine jI ?_
        refine WS.po (tb := tb) rfl rfl rfl rfl (step_R rfl (evR_load rfl rfl rfl rfl (cellsI_get hy))) ?_
        refine jo ?_
        refine je ?_
        refine jq ?_
        refine jg ?_
        iterate 2 refine jo ?_
        iterate 2 refine jN ?_
        iterate 3 refine jo ?_
        refine jB true ?_
        iterate 2 refine jo ?_
        refine jB false ?_
        iterate 2 refine jo ?_
        refine je ?_
        refine WS.pcondF rfl rfl ?_
        refine WS.pskip rfl ?_
        refine jg ?_
        refine jo ?_
        refine jW ?_
        refine jo ?_
        refine je ?_
        refine WS.nil ?_
        exact ⟨i + 1, ⟨by omega, by omega, by rw [hsu]; rfl⟩, by omega, (jSn [0] (by simp [jVb, jOb, jMb, mapL_cellsR, okL_cellsR]) (by simp only [jSl, jOb, jMb, Nat.reduceAdd, Nat.reduceLT] <;> exact jClo))⟩
      · refine WS.pseq rfl ?_
        refine jq ?_
        refine jg ?_
        iterate 2 refine jo ?_
        refine jDT ?_
        refine je ?_
        refine WS.pcondT rfl rfl ?_
        refine WS.pskip rfl ?_
        refine jq ?_
        refine WS.pblock rfl ?_
        refine jq ?_
        refine jg ?_
        iterate 3 refine jo ?_
        refine WS.po (tb := tb) rfl rfl rfl rfl (step_P (evP_mulV rfl rfl rfl (by assumption) (by simp only [lo]; omega) (by simp only [Am.hi]; omega))) ?_
        refine jo ?_
        refine WS.po (tb := tb) rfl rfl rfl rfl (step_P (evP_addV rfl rfl rfl (by assumption) (by simp only [lo]; omega) (by simp only [Am.hi]; omega))) ?_
        refine jI ?_
        refine WS.po (tb := tb) rfl rfl rfl rfl (step_R rfl (evR_load rfl rfl rfl rfl (cellsI_get hy))) ?_
        refine jo ?_
        refine je ?_
        refine jq ?_
        refine jg ?_
        iterate 2 refine jo ?_
        iterate 2 refine jN ?_
        iterate 3 refine jo ?_
        refine jB true ?_
        iterate 2 refine jo ?_
        refine jNT ?_
        iterate 2 refine jo ?_
        refine je ?_
        refine WS.pcondT rfl rfl ?_
        refine jq ?_
        refine jg ?_
        refine jo ?_
        refine je ?_
        refine WS.pret rfl ?_
        exact ⟨rfl, _, rfl, _, rfl, rfl, rfl⟩
    · obtain rfl : i = sz := by omega
      rw [hA] at hi3; cases hi3
  · rintro _ hf; exact hf.elim
theorem rt_ok1 (b p W n c sz o : Nat) (q : Bool) (I : List Int) (h2 : b ≤ 64) (h4 : p ≤ 32) (hbW : (b : Int) * sz = (W : Int)) (hW : W ≤ 680000) (hsz : sz = p * 68) (h : n = W + 2 * b) (hI : I.length = n) (hB : BytF I W) (k : Nat) (hk : k < b) (ho : (k : Int) * sz = (o : Int)) (ho3 : o + sz ≤ W) (hfl : fgI I W k = 1) (hxp : nxI I W k ≤ p) (hA : allB I (o + (nxI I W k).toNat * 68) ((p - (nxI I W k).toNat) * 68) 255 = true) :
    WS Try.prog (frameN Try.f30 3) 1 [.c (k1 (k1 (k2 (k1 (k2 (k2 (k2 (kb Try.f30))))))))] (slt (rtSl b p n c sz q k)) (mem 0 (imM I)) (RtY b p n c sz q I k) := by
  have g1 : I[W + 2 * k]? = some (fgI I W k) := getD_get (by omega)
  have g2 : I[W + 2 * k + 1]? = some (nxI I W k) := getD_get (by omega)
  have hf := hB _ _ (by omega) g1
  have hn := hB _ _ (by omega) g2
  have hx1 : (W : Int) + 2 * (k : Int) = ((W + 2 * k : Nat) : Int) := by omega
  have hx2 : (W : Int) + 2 * (k : Int) + 1 = ((W + 2 * k + 1 : Nat) : Int) := by omega
  obtain ⟨x, hx⟩ : ∃ x : Nat, nxI I W k = x := ⟨(nxI I W k).toNat, by omega⟩
  rw [hx] at g2 hn
  obtain ⟨s, hs⟩ : ∃ s : Nat, (x : Int) * 68 = (s : Int) := ⟨x * 68, by omega⟩
  rw [hx] at hA hxp
  rw [Int.toNat_natCast, show x * 68 = s by omega, show (p - x) * 68 = sz - s by omega] at hA
  rw [hfl] at g1
  simp only [rtSl]
  iterate 2 refine jq ?_
  refine jg ?_
  iterate 2 refine jo ?_
  refine jDT ?_
  refine je ?_
  refine WS.pcondT rfl rfl ?_
  refine WS.pskip rfl ?_
  refine jq ?_
  refine WS.pblock rfl ?_
  refine jq ?_
  refine jg ?_
  iterate 3 refine jo ?_
  refine WS.po (tb := tb) rfl rfl rfl rfl (step_P (evP_mulV rfl rfl rfl (by assumption) (by simp only [lo]; omega) (by simp only [Am.hi]; omega))) ?_
  refine jo ?_
  refine jW ?_
  refine WS.po (tb := tb) rfl rfl rfl rfl (step_P (evP_addV rfl rfl rfl (by assumption) (by simp only [lo]; omega) (by simp only [Am.hi]; omega))) ?_
  refine jI ?_
  refine WS.po (tb := tb) rfl rfl rfl rfl (step_R rfl (evR_load rfl rfl rfl rfl (cellsI_get g1))) ?_
  refine jo ?_
  refine je ?_
  refine jq ?_
  refine jg ?_
  iterate 3 refine jo ?_
  refine WS.po (tb := tb) rfl rfl rfl rfl (step_P (evP_mulV rfl rfl rfl (by assumption) (by simp only [lo]; omega) (by simp only [Am.hi]; omega))) ?_
  refine jo ?_
  refine jW ?_
  refine WS.po (tb := tb) rfl rfl rfl rfl (step_P (evP_addV rfl rfl rfl (by assumption) (by simp only [lo]; omega) (by simp only [Am.hi]; omega))) ?_
  refine WS.po (tb := tb) rfl rfl rfl rfl (step_P (evP_addV rfl rfl rfl (by assumption) (by simp only [lo]; omega) (by simp only [Am.hi]; omega))) ?_
  refine jI ?_
  refine WS.po (tb := tb) rfl rfl rfl rfl (step_R rfl (evR_load rfl rfl rfl rfl (cellsI_get g2))) ?_
  refine jW ?_
  refine jo ?_
  refine je ?_
  refine jq ?_
  refine jg ?_
  iterate 2 refine jo ?_
  refine jB false ?_
  refine jo ?_
  refine je ?_
  iterate 2 refine jq ?_
  refine jg ?_
  refine jo ?_
  refine jB false ?_
  iterate 3 refine jo ?_
  refine jDF ?_
  iterate 4 refine jo ?_
  iterate 2 refine jN ?_
  iterate 2 refine jo ?_
  refine je ?_
  refine WS.pcondF rfl rfl ?_
  refine WS.pskip rfl ?_
  refine jq ?_
  refine jg ?_
  refine jo ?_
  refine WS.po (tb := tb) rfl rfl rfl rfl (step_P (evP_mulV rfl rfl rfl (by assumption) (by simp only [lo]; omega) (by simp only [Am.hi]; omega))) ?_
  refine jo ?_
  refine je ?_
  refine WS.pblock rfl ?_
  refine WS.ploopI (σ := Nat) (τ := Unit) (fun i => [(0, .i .i64 b), (1, .i .i64 p), (2, .sl (some (0,0)) n c q), (7, .i .i64 sz), (8, .i .i64 k), (11, .b false), (12, .i .i64 i)]) (fun _ => imM I) (fun i => s ≤ i ∧ i ≤ sz ∧ allB I (o + s) (i - s) 255 = true) (fun i => sz - i)
    (fun _ => [(0, .i .i64 b), (1, .i .i64 p), (2, .sl (some (0,0)) n c q), (7, .i .i64 sz), (8, .i .i64 k)]) (fun _ => imM I) (fun _ => True) 2 [0] s rfl ⟨Nat.le_refl _, by omega, by rw [Nat.sub_self]; rfl⟩ (jSb (by simp [jVb, jOb, jMb, mapL_cellsR, okL_cellsR]) (by simp only [jSl, jOb, jMb, Nat.reduceAdd, Nat.reduceLT] <;> exact jClo)) rfl ?_ ?_
  · rintro i ⟨hi1, hi2, hi3⟩
    by_cases hlt : i < sz
    · obtain ⟨y, hy⟩ : ∃ y, I[o + i]? = some y := ⟨_, List.getElem?_eq_getElem (by omega)⟩
      have hoi : (o : Int) + (i : Int) = ((o + i : Nat) : Int) := by omega
      have hsu := allB_succ (xs := I) (o := o + s) (n := i - s) (v := 255) (x := y) (by rw [show o + s + (i - s) = o + i by omega]; exact hy)
      rw [hi3, Bool.true_and, show i - s + 1 = i + 1 - s by omega] at hsu
      have hyv := (allB_iff (by omega)).1 hA (i - s) (by omega)
      rw [show o + s + (i - s) = o + i by omega, hy] at hyv
      obtain rfl := Option.some.inj hyv
      iterate 2 refine jq ?_
      refine jg ?_
      iterate 2 refine jo ?_
      refine jDT ?_
      refine je ?_
      refine WS.pcondT rfl rfl ?_
      refine WS.pskip rfl ?_
      refine jq ?_
      refine WS.pblock rfl ?_
      refine jq ?_
      refine jg ?_
      iterate 3 refine jo ?_
      refine WS.po (tb := tb) rfl rfl rfl rfl (step_P (evP_mulV rfl rfl rfl (by assumption) (by simp only [lo]; omega) (by simp only [Am.hi]; omega))) ?_
      refine jo ?_
      refine WS.po (tb := tb) rfl rfl rfl rfl (step_P (evP_addV rfl rfl rfl (by assumption) (by simp only [lo]; omega) (by simp only [Am.hi]; omega))) ?_
      refine jI ?_
      refine WS.po (tb := tb) rfl rfl rfl rfl (step_R rfl (evR_load rfl rfl rfl rfl (cellsI_get hy))) ?_
      refine jo ?_
      refine je ?_
      refine jq ?_
      refine jg ?_
      iterate 2 refine jo ?_
      iterate 2 refine jN ?_
      iterate 3 refine jo ?_
      refine jB true ?_
      iterate 2 refine jo ?_
      refine jB false ?_
      iterate 2 refine jo ?_
      refine je ?_
      refine WS.pcondF rfl rfl ?_
      refine WS.pskip rfl ?_
      refine jg ?_
      refine jo ?_
      refine jW ?_
      refine jo ?_
      refine je ?_
      refine WS.nil ?_
      exact ⟨i + 1, ⟨by omega, by omega, by rw [hsu]; rfl⟩, by omega, (jSn [0] (by simp [jVb, jOb, jMb, mapL_cellsR, okL_cellsR]) (by simp only [jSl, jOb, jMb, Nat.reduceAdd, Nat.reduceLT] <;> exact jClo))⟩
    · obtain rfl : i = sz := by omega
      iterate 2 refine jq ?_
      refine jg ?_
      iterate 2 refine jo ?_
      refine jDF ?_
      refine je ?_
      refine WS.pcondF rfl rfl ?_
      refine WS.pout rfl rfl ?_
      exact ⟨rfl, (), trivial, (jSn [0] (by simp [jVb, jOb, jMb, mapL_cellsR, okL_cellsR]) (by simp only [jSl, jOb, jMb, Nat.reduceAdd, Nat.reduceLT] <;> exact jClo))⟩
  · rintro _ -
    refine jg ?_
    refine jo ?_
    refine jW ?_
    refine jo ?_
    refine je ?_
    refine WS.nil ?_
    exact ⟨rfl, (jSn [0] (by simp [jVb, jOb, jMb, mapL_cellsR, okL_cellsR, rtSl]) (by simp only [jSl, jOb, jMb, Nat.reduceAdd, Nat.reduceLT, rtSl] <;> exact jClo))⟩
theorem rt_no1 (b p W n c sz o : Nat) (q : Bool) (I : List Int) (h2 : b ≤ 64) (h4 : p ≤ 32) (hbW : (b : Int) * sz = (W : Int)) (hW : W ≤ 680000) (hsz : sz = p * 68) (h : n = W + 2 * b) (hI : I.length = n) (hB : BytF I W) (k : Nat) (hk : k < b) (ho : (k : Int) * sz = (o : Int)) (ho3 : o + sz ≤ W) (hfl : fgI I W k = 1) (hxp : nxI I W k ≤ p) (hA : allB I (o + (nxI I W k).toNat * 68) ((p - (nxI I W k).toNat) * 68) 255 = false) :
    WS Try.prog (frameN Try.f30 3) 1 [.c (k1 (k1 (k2 (k1 (k2 (k2 (k2 (kb Try.f30))))))))] (slt (rtSl b p n c sz q k)) (mem 0 (imM I)) (RtN I) := by
  have g1 : I[W + 2 * k]? = some (fgI I W k) := getD_get (by omega)
  have g2 : I[W + 2 * k + 1]? = some (nxI I W k) := getD_get (by omega)
  have hf := hB _ _ (by omega) g1
  have hn := hB _ _ (by omega) g2
  have hx1 : (W : Int) + 2 * (k : Int) = ((W + 2 * k : Nat) : Int) := by omega
  have hx2 : (W : Int) + 2 * (k : Int) + 1 = ((W + 2 * k + 1 : Nat) : Int) := by omega
  obtain ⟨x, hx⟩ : ∃ x : Nat, nxI I W k = x := ⟨(nxI I W k).toNat, by omega⟩
  rw [hx] at g2 hn
  obtain ⟨s, hs⟩ : ∃ s : Nat, (x : Int) * 68 = (s : Int) := ⟨x * 68, by omega⟩
  rw [hx] at hA hxp
  rw [Int.toNat_natCast, show x * 68 = s by omega, show (p - x) * 68 = sz - s by omega] at hA
  rw [hfl] at g1
  simp only [rtSl]
  iterate 2 refine jq ?_
  refine jg ?_
  iterate 2 refine jo ?_
  refine jDT ?_
  refine je ?_
  refine WS.pcondT rfl rfl ?_
  refine WS.pskip rfl ?_
  refine jq ?_
  refine WS.pblock rfl ?_
  refine jq ?_
  refine jg ?_
  iterate 3 refine jo ?_
  refine WS.po (tb := tb) rfl rfl rfl rfl (step_P (evP_mulV rfl rfl rfl (by assumption) (by simp only [lo]; omega) (by simp only [Am.hi]; omega))) ?_
  refine jo ?_
  refine jW ?_
  refine WS.po (tb := tb) rfl rfl rfl rfl (step_P (evP_addV rfl rfl rfl (by assumption) (by simp only [lo]; omega) (by simp only [Am.hi]; omega))) ?_
  refine jI ?_
  refine WS.po (tb := tb) rfl rfl rfl rfl (step_R rfl (evR_load rfl rfl rfl rfl (cellsI_get g1))) ?_
  refine jo ?_
  refine je ?_
  refine jq ?_
  refine jg ?_
  iterate 3 refine jo ?_
  refine WS.po (tb := tb) rfl rfl rfl rfl (step_P (evP_mulV rfl rfl rfl (by assumption) (by simp only [lo]; omega) (by simp only [Am.hi]; omega))) ?_
  refine jo ?_
  refine jW ?_
  refine WS.po (tb := tb) rfl rfl rfl rfl (step_P (evP_addV rfl rfl rfl (by assumption) (by simp only [lo]; omega) (by simp only [Am.hi]; omega))) ?_
  refine WS.po (tb := tb) rfl rfl rfl rfl (step_P (evP_addV rfl rfl rfl (by assumption) (by simp only [lo]; omega) (by simp only [Am.hi]; omega))) ?_
  refine jI ?_
  refine WS.po (tb := tb) rfl rfl rfl rfl (step_R rfl (evR_load rfl rfl rfl rfl (cellsI_get g2))) ?_
  refine jW ?_
  refine jo ?_
  refine je ?_
  refine jq ?_
  refine jg ?_
  iterate 2 refine jo ?_
  refine jB false ?_
  refine jo ?_
  refine je ?_
  iterate 2 refine jq ?_
  refine jg ?_
  refine jo ?_
  refine jB false ?_
  iterate 3 refine jo ?_
  refine jDF ?_
  iterate 4 refine jo ?_
  iterate 2 refine jN ?_
  iterate 2 refine jo ?_
  refine je ?_
  refine WS.pcondF rfl rfl ?_
  refine WS.pskip rfl ?_
  refine jq ?_
  refine jg ?_
  refine jo ?_
  refine WS.po (tb := tb) rfl rfl rfl rfl (step_P (evP_mulV rfl rfl rfl (by assumption) (by simp only [lo]; omega) (by simp only [Am.hi]; omega))) ?_
  refine jo ?_
  refine je ?_
  refine WS.pblock rfl ?_
  refine WS.ploopI (σ := Nat) (τ := Unit) (fun i => [(0, .i .i64 b), (1, .i .i64 p), (2, .sl (some (0,0)) n c q), (7, .i .i64 sz), (8, .i .i64 k), (11, .b false), (12, .i .i64 i)]) (fun _ => imM I) (fun i => s ≤ i ∧ i ≤ sz ∧ allB I (o + s) (i - s) 255 = true) (fun i => sz - i)
    (fun _ => [(0, .i .i64 b), (1, .i .i64 p), (2, .sl (some (0,0)) n c q), (7, .i .i64 sz), (8, .i .i64 k)]) (fun _ => imM I) (fun _ => False) 2 [0] s rfl ⟨Nat.le_refl _, by omega, by rw [Nat.sub_self]; rfl⟩ (jSb (by simp [jVb, jOb, jMb, mapL_cellsR, okL_cellsR]) (by simp only [jSl, jOb, jMb, Nat.reduceAdd, Nat.reduceLT] <;> exact jClo)) rfl ?_ ?_
  · rintro i ⟨hi1, hi2, hi3⟩
    by_cases hlt : i < sz
    · obtain ⟨y, hy⟩ : ∃ y, I[o + i]? = some y := ⟨_, List.getElem?_eq_getElem (by omega)⟩
      have hoi : (o : Int) + (i : Int) = ((o + i : Nat) : Int) := by omega
      have hsu := allB_succ (xs := I) (o := o + s) (n := i - s) (v := 255) (x := y) (by rw [show o + s + (i - s) = o + i by omega]; exact hy)
      rw [hi3, Bool.true_and, show i - s + 1 = i + 1 - s by omega] at hsu
      by_cases hyv : y = 255
      · subst hyv
        iterate 2 refine jq ?_
        refine jg ?_
        iterate 2 refine jo ?_
        refine jDT ?_
        refine je ?_
        refine WS.pcondT rfl rfl ?_
        refine WS.pskip rfl ?_
        refine jq ?_
        refine WS.pblock rfl ?_
        refine jq ?_
        refine jg ?_
        iterate 3 refine jo ?_
        refine WS.po (tb := tb) rfl rfl rfl rfl (step_P (evP_mulV rfl rfl rfl (by assumption) (by simp only [lo]; omega) (by simp only [Am.hi]; omega))) ?_
        refine jo ?_
        refine WS.po (tb := tb) rfl rfl rfl rfl (step_P (evP_addV rfl rfl rfl (by assumption) (by simp only [lo]; omega) (by simp only [Am.hi]; omega))) ?_
        refine jI ?_
        refine WS.po (tb := tb) rfl rfl rfl rfl (step_R rfl (evR_load rfl rfl rfl rfl (cellsI_get hy))) ?_
        refine jo ?_
        refine je ?_
        refine jq ?_
        refine jg ?_
        iterate 2 refine jo ?_
        iterate 2 refine jN ?_
        iterate 3 refine jo ?_
        refine jB true ?_
        iterate 2 refine jo ?_
        refine jB false ?_
        iterate 2 refine jo ?_
        refine je ?_
        refine WS.pcondF rfl rfl ?_
        refine WS.pskip rfl ?_
        refine jg ?_
        refine jo ?_
        refine jW ?_
        refine jo ?_
        refine je ?_
        refine WS.nil ?_
        exact ⟨i + 1, ⟨by omega, by omega, by rw [hsu]; rfl⟩, by omega, (jSn [0] (by simp [jVb, jOb, jMb, mapL_cellsR, okL_cellsR]) (by simp only [jSl, jOb, jMb, Nat.reduceAdd, Nat.reduceLT] <;> exact jClo))⟩
      · refine WS.pseq rfl ?_
        refine jq ?_
        refine jg ?_
        iterate 2 refine jo ?_
        refine jDT ?_
        refine je ?_
        refine WS.pcondT rfl rfl ?_
        refine WS.pskip rfl ?_
        refine jq ?_
        refine WS.pblock rfl ?_
        refine jq ?_
        refine jg ?_
        iterate 3 refine jo ?_
        refine WS.po (tb := tb) rfl rfl rfl rfl (step_P (evP_mulV rfl rfl rfl (by assumption) (by simp only [lo]; omega) (by simp only [Am.hi]; omega))) ?_
        refine jo ?_
        refine WS.po (tb := tb) rfl rfl rfl rfl (step_P (evP_addV rfl rfl rfl (by assumption) (by simp only [lo]; omega) (by simp only [Am.hi]; omega))) ?_
        refine jI ?_
        refine WS.po (tb := tb) rfl rfl rfl rfl (step_R rfl (evR_load rfl rfl rfl rfl (cellsI_get hy))) ?_
        refine jo ?_
        refine je ?_
        refine jq ?_
        refine jg ?_
        iterate 2 refine jo ?_
        iterate 2 refine jN ?_
        iterate 3 refine jo ?_
        refine jB true ?_
        iterate 2 refine jo ?_
        refine jNT ?_
        iterate 2 refine jo ?_
        refine je ?_
        refine WS.pcondT rfl rfl ?_
        refine jq ?_
        refine jg ?_
        refine jo ?_
        refine je ?_
        refine WS.pret rfl ?_
        exact ⟨rfl, _, rfl, _, rfl, rfl, rfl⟩
    · obtain rfl : i = sz := by omega
      rw [hA] at hi3; cases hi3
  · rintro _ hf; exact hf.elim
theorem rt_ok2 (b p W n c sz o : Nat) (q : Bool) (I : List Int) (h2 : b ≤ 64) (h4 : p ≤ 32) (hbW : (b : Int) * sz = (W : Int)) (hW : W ≤ 680000) (hsz : sz = p * 68) (h : n = W + 2 * b) (hI : I.length = n) (hB : BytF I W) (k : Nat) (hk : k < b) (ho : (k : Int) * sz = (o : Int)) (ho3 : o + sz ≤ W) (hfl : fgI I W k = 2) (hx0 : nxI I W k = 0) (hA : allB I o sz 0 = true) :
    WS Try.prog (frameN Try.f30 3) 1 [.c (k1 (k1 (k2 (k1 (k2 (k2 (k2 (kb Try.f30))))))))] (slt (rtSl b p n c sz q k)) (mem 0 (imM I)) (RtY b p n c sz q I k) := by
  have g1 : I[W + 2 * k]? = some (fgI I W k) := getD_get (by omega)
  have g2 : I[W + 2 * k + 1]? = some (nxI I W k) := getD_get (by omega)
  have hf := hB _ _ (by omega) g1
  have hn := hB _ _ (by omega) g2
  have hx1 : (W : Int) + 2 * (k : Int) = ((W + 2 * k : Nat) : Int) := by omega
  have hx2 : (W : Int) + 2 * (k : Int) + 1 = ((W + 2 * k + 1 : Nat) : Int) := by omega
  obtain ⟨x, hx⟩ : ∃ x : Nat, nxI I W k = x := ⟨(nxI I W k).toNat, by omega⟩
  rw [hx] at g2 hn
  obtain ⟨s, hs⟩ : ∃ s : Nat, (x : Int) * 68 = (s : Int) := ⟨x * 68, by omega⟩
  have hA : allB I (o + s) (sz - s) 0 = true := by rw [show s = 0 by omega]; exact hA
  have hx0 : x = 0 := by omega
  rw [hfl] at g1
  simp only [rtSl]
  iterate 2 refine jq ?_
  refine jg ?_
  iterate 2 refine jo ?_
  refine jDT ?_
  refine je ?_
  refine WS.pcondT rfl rfl ?_
  refine WS.pskip rfl ?_
  refine jq ?_
  refine WS.pblock rfl ?_
  refine jq ?_
  refine jg ?_
  iterate 3 refine jo ?_
  refine WS.po (tb := tb) rfl rfl rfl rfl (step_P (evP_mulV rfl rfl rfl (by assumption) (by simp only [lo]; omega) (by simp only [Am.hi]; omega))) ?_
  refine jo ?_
  refine jW ?_
  refine WS.po (tb := tb) rfl rfl rfl rfl (step_P (evP_addV rfl rfl rfl (by assumption) (by simp only [lo]; omega) (by simp only [Am.hi]; omega))) ?_
  refine jI ?_
  refine WS.po (tb := tb) rfl rfl rfl rfl (step_R rfl (evR_load rfl rfl rfl rfl (cellsI_get g1))) ?_
  refine jo ?_
  refine je ?_
  refine jq ?_
  refine jg ?_
  iterate 3 refine jo ?_
  refine WS.po (tb := tb) rfl rfl rfl rfl (step_P (evP_mulV rfl rfl rfl (by assumption) (by simp only [lo]; omega) (by simp only [Am.hi]; omega))) ?_
  refine jo ?_
  refine jW ?_
  refine WS.po (tb := tb) rfl rfl rfl rfl (step_P (evP_addV rfl rfl rfl (by assumption) (by simp only [lo]; omega) (by simp only [Am.hi]; omega))) ?_
  refine WS.po (tb := tb) rfl rfl rfl rfl (step_P (evP_addV rfl rfl rfl (by assumption) (by simp only [lo]; omega) (by simp only [Am.hi]; omega))) ?_
  refine jI ?_
  refine WS.po (tb := tb) rfl rfl rfl rfl (step_R rfl (evR_load rfl rfl rfl rfl (cellsI_get g2))) ?_
  refine jW ?_
  refine jo ?_
  refine je ?_
  refine jq ?_
  refine jg ?_
  iterate 2 refine jo ?_
  refine jB true ?_
  refine jo ?_
  refine je ?_
  iterate 2 refine jq ?_
  refine jg ?_
  refine jo ?_
  refine jB false ?_
  iterate 3 refine jo ?_
  refine jDF ?_
  iterate 5 refine jo ?_
  refine jNF ?_
  iterate 2 refine jo ?_
  refine je ?_
  refine WS.pcondF rfl rfl ?_
  refine WS.pskip rfl ?_
  refine jq ?_
  refine jg ?_
  refine jo ?_
  refine WS.po (tb := tb) rfl rfl rfl rfl (step_P (evP_mulV rfl rfl rfl (by assumption) (by simp only [lo]; omega) (by simp only [Am.hi]; omega))) ?_
  refine jo ?_
  refine je ?_
  refine WS.pblock rfl ?_
  refine WS.ploopI (σ := Nat) (τ := Unit) (fun i => [(0, .i .i64 b), (1, .i .i64 p), (2, .sl (some (0,0)) n c q), (7, .i .i64 sz), (8, .i .i64 k), (11, .b true), (12, .i .i64 i)]) (fun _ => imM I) (fun i => s ≤ i ∧ i ≤ sz ∧ allB I (o + s) (i - s) 0 = true) (fun i => sz - i)
    (fun _ => [(0, .i .i64 b), (1, .i .i64 p), (2, .sl (some (0,0)) n c q), (7, .i .i64 sz), (8, .i .i64 k)]) (fun _ => imM I) (fun _ => True) 2 [0] s rfl ⟨Nat.le_refl _, by omega, by rw [Nat.sub_self]; rfl⟩ (jSb (by simp [jVb, jOb, jMb, mapL_cellsR, okL_cellsR]) (by simp only [jSl, jOb, jMb, Nat.reduceAdd, Nat.reduceLT] <;> exact jClo)) rfl ?_ ?_
  · rintro i ⟨hi1, hi2, hi3⟩
    by_cases hlt : i < sz
    · obtain ⟨y, hy⟩ : ∃ y, I[o + i]? = some y := ⟨_, List.getElem?_eq_getElem (by omega)⟩
      have hoi : (o : Int) + (i : Int) = ((o + i : Nat) : Int) := by omega
      have hsu := allB_succ (xs := I) (o := o + s) (n := i - s) (v := 0) (x := y) (by rw [show o + s + (i - s) = o + i by omega]; exact hy)
      rw [hi3, Bool.true_and, show i - s + 1 = i + 1 - s by omega] at hsu
      have hyv := (allB_iff (by omega)).1 hA (i - s) (by omega)
      rw [show o + s + (i - s) = o + i by omega, hy] at hyv
      obtain rfl := Option.some.inj hyv
      iterate 2 refine jq ?_
      refine jg ?_
      iterate 2 refine jo ?_
      refine jDT ?_
      refine je ?_
      refine WS.pcondT rfl rfl ?_
      refine WS.pskip rfl ?_
      refine jq ?_
      refine WS.pblock rfl ?_
      refine jq ?_
      refine jg ?_
      iterate 3 refine jo ?_
      refine WS.po (tb := tb) rfl rfl rfl rfl (step_P (evP_mulV rfl rfl rfl (by assumption) (by simp only [lo]; omega) (by simp only [Am.hi]; omega))) ?_
      refine jo ?_
      refine WS.po (tb := tb) rfl rfl rfl rfl (step_P (evP_addV rfl rfl rfl (by assumption) (by simp only [lo]; omega) (by simp only [Am.hi]; omega))) ?_
      refine jI ?_
      refine WS.po (tb := tb) rfl rfl rfl rfl (step_R rfl (evR_load rfl rfl rfl rfl (cellsI_get hy))) ?_
      refine jo ?_
      refine je ?_
      refine jq ?_
      refine jg ?_
      iterate 3 refine jo ?_
      refine jB false ?_
      iterate 3 refine jo ?_
      refine jB false ?_
      refine jo ?_
      iterate 2 refine jN ?_
      iterate 2 refine jo ?_
      refine je ?_
      refine WS.pcondF rfl rfl ?_
      refine WS.pskip rfl ?_
      refine jg ?_
      refine jo ?_
      refine jW ?_
      refine jo ?_
      refine je ?_
      refine WS.nil ?_
      exact ⟨i + 1, ⟨by omega, by omega, by rw [hsu]; rfl⟩, by omega, (jSn [0] (by simp [jVb, jOb, jMb, mapL_cellsR, okL_cellsR]) (by simp only [jSl, jOb, jMb, Nat.reduceAdd, Nat.reduceLT] <;> exact jClo))⟩
    · obtain rfl : i = sz := by omega
      iterate 2 refine jq ?_
      refine jg ?_
      iterate 2 refine jo ?_
      refine jDF ?_
      refine je ?_
      refine WS.pcondF rfl rfl ?_
      refine WS.pout rfl rfl ?_
      exact ⟨rfl, (), trivial, (jSn [0] (by simp [jVb, jOb, jMb, mapL_cellsR, okL_cellsR]) (by simp only [jSl, jOb, jMb, Nat.reduceAdd, Nat.reduceLT] <;> exact jClo))⟩
  · rintro _ -
    refine jg ?_
    refine jo ?_
    refine jW ?_
    refine jo ?_
    refine je ?_
    refine WS.nil ?_
    exact ⟨rfl, (jSn [0] (by simp [jVb, jOb, jMb, mapL_cellsR, okL_cellsR, rtSl]) (by simp only [jSl, jOb, jMb, Nat.reduceAdd, Nat.reduceLT, rtSl] <;> exact jClo))⟩
theorem rt_no2 (b p W n c sz o : Nat) (q : Bool) (I : List Int) (h2 : b ≤ 64) (h4 : p ≤ 32) (hbW : (b : Int) * sz = (W : Int)) (hW : W ≤ 680000) (hsz : sz = p * 68) (h : n = W + 2 * b) (hI : I.length = n) (hB : BytF I W) (k : Nat) (hk : k < b) (ho : (k : Int) * sz = (o : Int)) (ho3 : o + sz ≤ W) (hfl : fgI I W k = 2) (hx0 : nxI I W k = 0) (hA : allB I o sz 0 = false) :
    WS Try.prog (frameN Try.f30 3) 1 [.c (k1 (k1 (k2 (k1 (k2 (k2 (k2 (kb Try.f30))))))))] (slt (rtSl b p n c sz q k)) (mem 0 (imM I)) (RtN I) := by
  have g1 : I[W + 2 * k]? = some (fgI I W k) := getD_get (by omega)
  have g2 : I[W + 2 * k + 1]? = some (nxI I W k) := getD_get (by omega)
  have hf := hB _ _ (by omega) g1
  have hn := hB _ _ (by omega) g2
  have hx1 : (W : Int) + 2 * (k : Int) = ((W + 2 * k : Nat) : Int) := by omega
  have hx2 : (W : Int) + 2 * (k : Int) + 1 = ((W + 2 * k + 1 : Nat) : Int) := by omega
  obtain ⟨x, hx⟩ : ∃ x : Nat, nxI I W k = x := ⟨(nxI I W k).toNat, by omega⟩
  rw [hx] at g2 hn
  obtain ⟨s, hs⟩ : ∃ s : Nat, (x : Int) * 68 = (s : Int) := ⟨x * 68, by omega⟩
  have hA : allB I (o + s) (sz - s) 0 = false := by rw [show s = 0 by omega]; exact hA
  have hx0 : x = 0 := by omega
  rw [hfl] at g1
  simp only [rtSl]
  iterate 2 refine jq ?_
  refine jg ?_
  iterate 2 refine jo ?_
  refine jDT ?_
  refine je ?_
  refine WS.pcondT rfl rfl ?_
  refine WS.pskip rfl ?_
  refine jq ?_
  refine WS.pblock rfl ?_
  refine jq ?_
  refine jg ?_
  iterate 3 refine jo ?_
  refine WS.po (tb := tb) rfl rfl rfl rfl (step_P (evP_mulV rfl rfl rfl (by assumption) (by simp only [lo]; omega) (by simp only [Am.hi]; omega))) ?_
  refine jo ?_
  refine jW ?_
  refine WS.po (tb := tb) rfl rfl rfl rfl (step_P (evP_addV rfl rfl rfl (by assumption) (by simp only [lo]; omega) (by simp only [Am.hi]; omega))) ?_
  refine jI ?_
  refine WS.po (tb := tb) rfl rfl rfl rfl (step_R rfl (evR_load rfl rfl rfl rfl (cellsI_get g1))) ?_
  refine jo ?_
  refine je ?_
  refine jq ?_
  refine jg ?_
  iterate 3 refine jo ?_
  refine WS.po (tb := tb) rfl rfl rfl rfl (step_P (evP_mulV rfl rfl rfl (by assumption) (by simp only [lo]; omega) (by simp only [Am.hi]; omega))) ?_
  refine jo ?_
  refine jW ?_
  refine WS.po (tb := tb) rfl rfl rfl rfl (step_P (evP_addV rfl rfl rfl (by assumption) (by simp only [lo]; omega) (by simp only [Am.hi]; omega))) ?_
  refine WS.po (tb := tb) rfl rfl rfl rfl (step_P (evP_addV rfl rfl rfl (by assumption) (by simp only [lo]; omega) (by simp only [Am.hi]; omega))) ?_
  refine jI ?_
  refine WS.po (tb := tb) rfl rfl rfl rfl (step_R rfl (evR_load rfl rfl rfl rfl (cellsI_get g2))) ?_
  refine jW ?_
  refine jo ?_
  refine je ?_
  refine jq ?_
  refine jg ?_
  iterate 2 refine jo ?_
  refine jB true ?_
  refine jo ?_
  refine je ?_
  iterate 2 refine jq ?_
  refine jg ?_
  refine jo ?_
  refine jB false ?_
  iterate 3 refine jo ?_
  refine jDF ?_
  iterate 5 refine jo ?_
  refine jNF ?_
  iterate 2 refine jo ?_
  refine je ?_
  refine WS.pcondF rfl rfl ?_
  refine WS.pskip rfl ?_
  refine jq ?_
  refine jg ?_
  refine jo ?_
  refine WS.po (tb := tb) rfl rfl rfl rfl (step_P (evP_mulV rfl rfl rfl (by assumption) (by simp only [lo]; omega) (by simp only [Am.hi]; omega))) ?_
  refine jo ?_
  refine je ?_
  refine WS.pblock rfl ?_
  refine WS.ploopI (σ := Nat) (τ := Unit) (fun i => [(0, .i .i64 b), (1, .i .i64 p), (2, .sl (some (0,0)) n c q), (7, .i .i64 sz), (8, .i .i64 k), (11, .b true), (12, .i .i64 i)]) (fun _ => imM I) (fun i => s ≤ i ∧ i ≤ sz ∧ allB I (o + s) (i - s) 0 = true) (fun i => sz - i)
    (fun _ => [(0, .i .i64 b), (1, .i .i64 p), (2, .sl (some (0,0)) n c q), (7, .i .i64 sz), (8, .i .i64 k)]) (fun _ => imM I) (fun _ => False) 2 [0] s rfl ⟨Nat.le_refl _, by omega, by rw [Nat.sub_self]; rfl⟩ (jSb (by simp [jVb, jOb, jMb, mapL_cellsR, okL_cellsR]) (by simp only [jSl, jOb, jMb, Nat.reduceAdd, Nat.reduceLT] <;> exact jClo)) rfl ?_ ?_
  · rintro i ⟨hi1, hi2, hi3⟩
    by_cases hlt : i < sz
    · obtain ⟨y, hy⟩ : ∃ y, I[o + i]? = some y := ⟨_, List.getElem?_eq_getElem (by omega)⟩
      have hoi : (o : Int) + (i : Int) = ((o + i : Nat) : Int) := by omega
      have hsu := allB_succ (xs := I) (o := o + s) (n := i - s) (v := 0) (x := y) (by rw [show o + s + (i - s) = o + i by omega]; exact hy)
      rw [hi3, Bool.true_and, show i - s + 1 = i + 1 - s by omega] at hsu
      by_cases hyv : y = 0
      · subst hyv
        iterate 2 refine jq ?_
        refine jg ?_
        iterate 2 refine jo ?_
        refine jDT ?_
        refine je ?_
        refine WS.pcondT rfl rfl ?_
        refine WS.pskip rfl ?_
        refine jq ?_
        refine WS.pblock rfl ?_
        refine jq ?_
        refine jg ?_
        iterate 3 refine jo ?_
        refine WS.po (tb := tb) rfl rfl rfl rfl (step_P (evP_mulV rfl rfl rfl (by assumption) (by simp only [lo]; omega) (by simp only [Am.hi]; omega))) ?_
        refine jo ?_
        refine WS.po (tb := tb) rfl rfl rfl rfl (step_P (evP_addV rfl rfl rfl (by assumption) (by simp only [lo]; omega) (by simp only [Am.hi]; omega))) ?_
        refine jI ?_
        refine WS.po (tb := tb) rfl rfl rfl rfl (step_R rfl (evR_load rfl rfl rfl rfl (cellsI_get hy))) ?_
        refine jo ?_
        refine je ?_
        refine jq ?_
        refine jg ?_
        iterate 3 refine jo ?_
        refine jB false ?_
        iterate 3 refine jo ?_
        refine jB false ?_
        refine jo ?_
        iterate 2 refine jN ?_
        iterate 2 refine jo ?_
        refine je ?_
        refine WS.pcondF rfl rfl ?_
        refine WS.pskip rfl ?_
        refine jg ?_
        refine jo ?_
        refine jW ?_
        refine jo ?_
        refine je ?_
        refine WS.nil ?_
        exact ⟨i + 1, ⟨by omega, by omega, by rw [hsu]; rfl⟩, by omega, (jSn [0] (by simp [jVb, jOb, jMb, mapL_cellsR, okL_cellsR]) (by simp only [jSl, jOb, jMb, Nat.reduceAdd, Nat.reduceLT] <;> exact jClo))⟩
      · refine WS.pseq rfl ?_
        refine jq ?_
        refine jg ?_
        iterate 2 refine jo ?_
        refine jDT ?_
        refine je ?_
        refine WS.pcondT rfl rfl ?_
        refine WS.pskip rfl ?_
        refine jq ?_
        refine WS.pblock rfl ?_
        refine jq ?_
        refine jg ?_
        iterate 3 refine jo ?_
        refine WS.po (tb := tb) rfl rfl rfl rfl (step_P (evP_mulV rfl rfl rfl (by assumption) (by simp only [lo]; omega) (by simp only [Am.hi]; omega))) ?_
        refine jo ?_
        refine WS.po (tb := tb) rfl rfl rfl rfl (step_P (evP_addV rfl rfl rfl (by assumption) (by simp only [lo]; omega) (by simp only [Am.hi]; omega))) ?_
        refine jI ?_
        refine WS.po (tb := tb) rfl rfl rfl rfl (step_R rfl (evR_load rfl rfl rfl rfl (cellsI_get hy))) ?_
        refine jo ?_
        refine je ?_
        refine jq ?_
        refine jg ?_
        iterate 3 refine jo ?_
        refine jNT ?_
        iterate 2 refine jo ?_
        iterate 6 refine jN ?_
        refine jo ?_
        refine je ?_
        refine WS.pcondT rfl rfl ?_
        refine jq ?_
        refine jg ?_
        refine jo ?_
        refine je ?_
        refine WS.pret rfl ?_
        exact ⟨rfl, _, rfl, _, rfl, rfl, rfl⟩
    · obtain rfl : i = sz := by omega
      rw [hA] at hi3; cases hi3
  · rintro _ hf; exact hf.elim
theorem rt_nx2 (b p W n c sz o : Nat) (q : Bool) (I : List Int) (h2 : b ≤ 64) (h4 : p ≤ 32) (hbW : (b : Int) * sz = (W : Int)) (hW : W ≤ 680000) (hsz : sz = p * 68) (h : n = W + 2 * b) (hI : I.length = n) (hB : BytF I W) (k : Nat) (hk : k < b) (ho : (k : Int) * sz = (o : Int)) (ho3 : o + sz ≤ W) (hfl : fgI I W k = 2) (hxp : nxI I W k ≤ p) (hx0 : ¬ nxI I W k = 0) :
    WS Try.prog (frameN Try.f30 3) 1 [.c (k1 (k1 (k2 (k1 (k2 (k2 (k2 (kb Try.f30))))))))] (slt (rtSl b p n c sz q k)) (mem 0 (imM I)) (RtN I) := by
  have g1 : I[W + 2 * k]? = some (fgI I W k) := getD_get (by omega)
  have g2 : I[W + 2 * k + 1]? = some (nxI I W k) := getD_get (by omega)
  have hf := hB _ _ (by omega) g1
  have hn := hB _ _ (by omega) g2
  have hx1 : (W : Int) + 2 * (k : Int) = ((W + 2 * k : Nat) : Int) := by omega
  have hx2 : (W : Int) + 2 * (k : Int) + 1 = ((W + 2 * k + 1 : Nat) : Int) := by omega
  obtain ⟨x, hx⟩ : ∃ x : Nat, nxI I W k = x := ⟨(nxI I W k).toNat, by omega⟩
  rw [hx] at g2 hn
  obtain ⟨s, hs⟩ : ∃ s : Nat, (x : Int) * 68 = (s : Int) := ⟨x * 68, by omega⟩
  rw [hx] at hxp hx0
  rw [hfl] at g1
  simp only [rtSl]
  iterate 2 refine jq ?_
  refine jg ?_
  iterate 2 refine jo ?_
  refine jDT ?_
  refine je ?_
  refine WS.pcondT rfl rfl ?_
  refine WS.pskip rfl ?_
  refine jq ?_
  refine WS.pblock rfl ?_
  refine jq ?_
  refine jg ?_
  iterate 3 refine jo ?_
  refine WS.po (tb := tb) rfl rfl rfl rfl (step_P (evP_mulV rfl rfl rfl (by assumption) (by simp only [lo]; omega) (by simp only [Am.hi]; omega))) ?_
  refine jo ?_
  refine jW ?_
  refine WS.po (tb := tb) rfl rfl rfl rfl (step_P (evP_addV rfl rfl rfl (by assumption) (by simp only [lo]; omega) (by simp only [Am.hi]; omega))) ?_
  refine jI ?_
  refine WS.po (tb := tb) rfl rfl rfl rfl (step_R rfl (evR_load rfl rfl rfl rfl (cellsI_get g1))) ?_
  refine jo ?_
  refine je ?_
  refine jq ?_
  refine jg ?_
  iterate 3 refine jo ?_
  refine WS.po (tb := tb) rfl rfl rfl rfl (step_P (evP_mulV rfl rfl rfl (by assumption) (by simp only [lo]; omega) (by simp only [Am.hi]; omega))) ?_
  refine jo ?_
  refine jW ?_
  refine WS.po (tb := tb) rfl rfl rfl rfl (step_P (evP_addV rfl rfl rfl (by assumption) (by simp only [lo]; omega) (by simp only [Am.hi]; omega))) ?_
  refine WS.po (tb := tb) rfl rfl rfl rfl (step_P (evP_addV rfl rfl rfl (by assumption) (by simp only [lo]; omega) (by simp only [Am.hi]; omega))) ?_
  refine jI ?_
  refine WS.po (tb := tb) rfl rfl rfl rfl (step_R rfl (evR_load rfl rfl rfl rfl (cellsI_get g2))) ?_
  refine jW ?_
  refine jo ?_
  refine je ?_
  refine jq ?_
  refine jg ?_
  iterate 2 refine jo ?_
  refine jB true ?_
  refine jo ?_
  refine je ?_
  iterate 2 refine jq ?_
  refine jg ?_
  refine jo ?_
  refine jB false ?_
  iterate 3 refine jo ?_
  refine jDF ?_
  iterate 5 refine jo ?_
  refine jNT ?_
  iterate 2 refine jo ?_
  refine je ?_
  refine WS.pcondT rfl rfl ?_
  refine jq ?_
  refine jg ?_
  refine jo ?_
  refine je ?_
  refine WS.pret rfl ?_
  exact ⟨rfl, _, rfl, _, rfl, rfl, rfl⟩
theorem rt_ok3 (b p W n c sz o : Nat) (q : Bool) (I : List Int) (h2 : b ≤ 64) (h4 : p ≤ 32) (hbW : (b : Int) * sz = (W : Int)) (hW : W ≤ 680000) (hsz : sz = p * 68) (h : n = W + 2 * b) (hI : I.length = n) (hB : BytF I W) (k : Nat) (hk : k < b) (ho : (k : Int) * sz = (o : Int)) (ho3 : o + sz ≤ W) (hfl : fgI I W k = 3) (hx0 : nxI I W k = 0) (hA : allB I o sz 0 = true) :
    WS Try.prog (frameN Try.f30 3) 1 [.c (k1 (k1 (k2 (k1 (k2 (k2 (k2 (kb Try.f30))))))))] (slt (rtSl b p n c sz q k)) (mem 0 (imM I)) (RtY b p n c sz q I k) := by
  have g1 : I[W + 2 * k]? = some (fgI I W k) := getD_get (by omega)
  have g2 : I[W + 2 * k + 1]? = some (nxI I W k) := getD_get (by omega)
  have hf := hB _ _ (by omega) g1
  have hn := hB _ _ (by omega) g2
  have hx1 : (W : Int) + 2 * (k : Int) = ((W + 2 * k : Nat) : Int) := by omega
  have hx2 : (W : Int) + 2 * (k : Int) + 1 = ((W + 2 * k + 1 : Nat) : Int) := by omega
  obtain ⟨x, hx⟩ : ∃ x : Nat, nxI I W k = x := ⟨(nxI I W k).toNat, by omega⟩
  rw [hx] at g2 hn
  obtain ⟨s, hs⟩ : ∃ s : Nat, (x : Int) * 68 = (s : Int) := ⟨x * 68, by omega⟩
  have hA : allB I (o + s) (sz - s) 0 = true := by rw [show s = 0 by omega]; exact hA
  have hx0 : x = 0 := by omega
  rw [hfl] at g1
  simp only [rtSl]
  iterate 2 refine jq ?_
  refine jg ?_
  iterate 2 refine jo ?_
  refine jDT ?_
  refine je ?_
  refine WS.pcondT rfl rfl ?_
  refine WS.pskip rfl ?_
  refine jq ?_
  refine WS.pblock rfl ?_
  refine jq ?_
  refine jg ?_
  iterate 3 refine jo ?_
  refine WS.po (tb := tb) rfl rfl rfl rfl (step_P (evP_mulV rfl rfl rfl (by assumption) (by simp only [lo]; omega) (by simp only [Am.hi]; omega))) ?_
  refine jo ?_
  refine jW ?_
  refine WS.po (tb := tb) rfl rfl rfl rfl (step_P (evP_addV rfl rfl rfl (by assumption) (by simp only [lo]; omega) (by simp only [Am.hi]; omega))) ?_
  refine jI ?_
  refine WS.po (tb := tb) rfl rfl rfl rfl (step_R rfl (evR_load rfl rfl rfl rfl (cellsI_get g1))) ?_
  refine jo ?_
  refine je ?_
  refine jq ?_
  refine jg ?_
  iterate 3 refine jo ?_
  refine WS.po (tb := tb) rfl rfl rfl rfl (step_P (evP_mulV rfl rfl rfl (by assumption) (by simp only [lo]; omega) (by simp only [Am.hi]; omega))) ?_
  refine jo ?_
  refine jW ?_
  refine WS.po (tb := tb) rfl rfl rfl rfl (step_P (evP_addV rfl rfl rfl (by assumption) (by simp only [lo]; omega) (by simp only [Am.hi]; omega))) ?_
  refine WS.po (tb := tb) rfl rfl rfl rfl (step_P (evP_addV rfl rfl rfl (by assumption) (by simp only [lo]; omega) (by simp only [Am.hi]; omega))) ?_
  refine jI ?_
  refine WS.po (tb := tb) rfl rfl rfl rfl (step_R rfl (evR_load rfl rfl rfl rfl (cellsI_get g2))) ?_
  refine jW ?_
  refine jo ?_
  refine je ?_
  refine jq ?_
  refine jg ?_
  iterate 2 refine jo ?_
  refine jB true ?_
  refine jo ?_
  refine je ?_
  iterate 2 refine jq ?_
  refine jg ?_
  refine jo ?_
  refine jB false ?_
  iterate 3 refine jo ?_
  refine jDF ?_
  iterate 5 refine jo ?_
  refine jNF ?_
  iterate 2 refine jo ?_
  refine je ?_
  refine WS.pcondF rfl rfl ?_
  refine WS.pskip rfl ?_
  refine jq ?_
  refine jg ?_
  refine jo ?_
  refine WS.po (tb := tb) rfl rfl rfl rfl (step_P (evP_mulV rfl rfl rfl (by assumption) (by simp only [lo]; omega) (by simp only [Am.hi]; omega))) ?_
  refine jo ?_
  refine je ?_
  refine WS.pblock rfl ?_
  refine WS.ploopI (σ := Nat) (τ := Unit) (fun i => [(0, .i .i64 b), (1, .i .i64 p), (2, .sl (some (0,0)) n c q), (7, .i .i64 sz), (8, .i .i64 k), (11, .b true), (12, .i .i64 i)]) (fun _ => imM I) (fun i => s ≤ i ∧ i ≤ sz ∧ allB I (o + s) (i - s) 0 = true) (fun i => sz - i)
    (fun _ => [(0, .i .i64 b), (1, .i .i64 p), (2, .sl (some (0,0)) n c q), (7, .i .i64 sz), (8, .i .i64 k)]) (fun _ => imM I) (fun _ => True) 2 [0] s rfl ⟨Nat.le_refl _, by omega, by rw [Nat.sub_self]; rfl⟩ (jSb (by simp [jVb, jOb, jMb, mapL_cellsR, okL_cellsR]) (by simp only [jSl, jOb, jMb, Nat.reduceAdd, Nat.reduceLT] <;> exact jClo)) rfl ?_ ?_
  · rintro i ⟨hi1, hi2, hi3⟩
    by_cases hlt : i < sz
    · obtain ⟨y, hy⟩ : ∃ y, I[o + i]? = some y := ⟨_, List.getElem?_eq_getElem (by omega)⟩
      have hoi : (o : Int) + (i : Int) = ((o + i : Nat) : Int) := by omega
      have hsu := allB_succ (xs := I) (o := o + s) (n := i - s) (v := 0) (x := y) (by rw [show o + s + (i - s) = o + i by omega]; exact hy)
      rw [hi3, Bool.true_and, show i - s + 1 = i + 1 - s by omega] at hsu
      have hyv := (allB_iff (by omega)).1 hA (i - s) (by omega)
      rw [show o + s + (i - s) = o + i by omega, hy] at hyv
      obtain rfl := Option.some.inj hyv
      iterate 2 refine jq ?_
      refine jg ?_
      iterate 2 refine jo ?_
      refine jDT ?_
      refine je ?_
      refine WS.pcondT rfl rfl ?_
      refine WS.pskip rfl ?_
      refine jq ?_
      refine WS.pblock rfl ?_
      refine jq ?_
      refine jg ?_
      iterate 3 refine jo ?_
      refine WS.po (tb := tb) rfl rfl rfl rfl (step_P (evP_mulV rfl rfl rfl (by assumption) (by simp only [lo]; omega) (by simp only [Am.hi]; omega))) ?_
      refine jo ?_
      refine WS.po (tb := tb) rfl rfl rfl rfl (step_P (evP_addV rfl rfl rfl (by assumption) (by simp only [lo]; omega) (by simp only [Am.hi]; omega))) ?_
      refine jI ?_
      refine WS.po (tb := tb) rfl rfl rfl rfl (step_R rfl (evR_load rfl rfl rfl rfl (cellsI_get hy))) ?_
      refine jo ?_
      refine je ?_
      refine jq ?_
      refine jg ?_
      iterate 3 refine jo ?_
      refine jB false ?_
      iterate 3 refine jo ?_
      refine jB false ?_
      refine jo ?_
      iterate 2 refine jN ?_
      iterate 2 refine jo ?_
      refine je ?_
      refine WS.pcondF rfl rfl ?_
      refine WS.pskip rfl ?_
      refine jg ?_
      refine jo ?_
      refine jW ?_
      refine jo ?_
      refine je ?_
      refine WS.nil ?_
      exact ⟨i + 1, ⟨by omega, by omega, by rw [hsu]; rfl⟩, by omega, (jSn [0] (by simp [jVb, jOb, jMb, mapL_cellsR, okL_cellsR]) (by simp only [jSl, jOb, jMb, Nat.reduceAdd, Nat.reduceLT] <;> exact jClo))⟩
    · obtain rfl : i = sz := by omega
      iterate 2 refine jq ?_
      refine jg ?_
      iterate 2 refine jo ?_
      refine jDF ?_
      refine je ?_
      refine WS.pcondF rfl rfl ?_
      refine WS.pout rfl rfl ?_
      exact ⟨rfl, (), trivial, (jSn [0] (by simp [jVb, jOb, jMb, mapL_cellsR, okL_cellsR]) (by simp only [jSl, jOb, jMb, Nat.reduceAdd, Nat.reduceLT] <;> exact jClo))⟩
  · rintro _ -
    refine jg ?_
    refine jo ?_
    refine jW ?_
    refine jo ?_
    refine je ?_
    refine WS.nil ?_
    exact ⟨rfl, (jSn [0] (by simp [jVb, jOb, jMb, mapL_cellsR, okL_cellsR, rtSl]) (by simp only [jSl, jOb, jMb, Nat.reduceAdd, Nat.reduceLT, rtSl] <;> exact jClo))⟩
theorem rt_no3 (b p W n c sz o : Nat) (q : Bool) (I : List Int) (h2 : b ≤ 64) (h4 : p ≤ 32) (hbW : (b : Int) * sz = (W : Int)) (hW : W ≤ 680000) (hsz : sz = p * 68) (h : n = W + 2 * b) (hI : I.length = n) (hB : BytF I W) (k : Nat) (hk : k < b) (ho : (k : Int) * sz = (o : Int)) (ho3 : o + sz ≤ W) (hfl : fgI I W k = 3) (hx0 : nxI I W k = 0) (hA : allB I o sz 0 = false) :
    WS Try.prog (frameN Try.f30 3) 1 [.c (k1 (k1 (k2 (k1 (k2 (k2 (k2 (kb Try.f30))))))))] (slt (rtSl b p n c sz q k)) (mem 0 (imM I)) (RtN I) := by
  have g1 : I[W + 2 * k]? = some (fgI I W k) := getD_get (by omega)
  have g2 : I[W + 2 * k + 1]? = some (nxI I W k) := getD_get (by omega)
  have hf := hB _ _ (by omega) g1
  have hn := hB _ _ (by omega) g2
  have hx1 : (W : Int) + 2 * (k : Int) = ((W + 2 * k : Nat) : Int) := by omega
  have hx2 : (W : Int) + 2 * (k : Int) + 1 = ((W + 2 * k + 1 : Nat) : Int) := by omega
  obtain ⟨x, hx⟩ : ∃ x : Nat, nxI I W k = x := ⟨(nxI I W k).toNat, by omega⟩
  rw [hx] at g2 hn
  obtain ⟨s, hs⟩ : ∃ s : Nat, (x : Int) * 68 = (s : Int) := ⟨x * 68, by omega⟩
  have hA : allB I (o + s) (sz - s) 0 = false := by rw [show s = 0 by omega]; exact hA
  have hx0 : x = 0 := by omega
  rw [hfl] at g1
  simp only [rtSl]
  iterate 2 refine jq ?_
  refine jg ?_
  iterate 2 refine jo ?_
  refine jDT ?_
  refine je ?_
  refine WS.pcondT rfl rfl ?_
  refine WS.pskip rfl ?_
  refine jq ?_
  refine WS.pblock rfl ?_
  refine jq ?_
  refine jg ?_
  iterate 3 refine jo ?_
  refine WS.po (tb := tb) rfl rfl rfl rfl (step_P (evP_mulV rfl rfl rfl (by assumption) (by simp only [lo]; omega) (by simp only [Am.hi]; omega))) ?_
  refine jo ?_
  refine jW ?_
  refine WS.po (tb := tb) rfl rfl rfl rfl (step_P (evP_addV rfl rfl rfl (by assumption) (by simp only [lo]; omega) (by simp only [Am.hi]; omega))) ?_
  refine jI ?_
  refine WS.po (tb := tb) rfl rfl rfl rfl (step_R rfl (evR_load rfl rfl rfl rfl (cellsI_get g1))) ?_
  refine jo ?_
  refine je ?_
  refine jq ?_
  refine jg ?_
  iterate 3 refine jo ?_
  refine WS.po (tb := tb) rfl rfl rfl rfl (step_P (evP_mulV rfl rfl rfl (by assumption) (by simp only [lo]; omega) (by simp only [Am.hi]; omega))) ?_
  refine jo ?_
  refine jW ?_
  refine WS.po (tb := tb) rfl rfl rfl rfl (step_P (evP_addV rfl rfl rfl (by assumption) (by simp only [lo]; omega) (by simp only [Am.hi]; omega))) ?_
  refine WS.po (tb := tb) rfl rfl rfl rfl (step_P (evP_addV rfl rfl rfl (by assumption) (by simp only [lo]; omega) (by simp only [Am.hi]; omega))) ?_
  refine jI ?_
  refine WS.po (tb := tb) rfl rfl rfl rfl (step_R rfl (evR_load rfl rfl rfl rfl (cellsI_get g2))) ?_
  refine jW ?_
  refine jo ?_
  refine je ?_
  refine jq ?_
  refine jg ?_
  iterate 2 refine jo ?_
  refine jB true ?_
  refine jo ?_
  refine je ?_
  iterate 2 refine jq ?_
  refine jg ?_
  refine jo ?_
  refine jB false ?_
  iterate 3 refine jo ?_
  refine jDF ?_
  iterate 5 refine jo ?_
  refine jNF ?_
  iterate 2 refine jo ?_
  refine je ?_
  refine WS.pcondF rfl rfl ?_
  refine WS.pskip rfl ?_
  refine jq ?_
  refine jg ?_
  refine jo ?_
  refine WS.po (tb := tb) rfl rfl rfl rfl (step_P (evP_mulV rfl rfl rfl (by assumption) (by simp only [lo]; omega) (by simp only [Am.hi]; omega))) ?_
  refine jo ?_
  refine je ?_
  refine WS.pblock rfl ?_
  refine WS.ploopI (σ := Nat) (τ := Unit) (fun i => [(0, .i .i64 b), (1, .i .i64 p), (2, .sl (some (0,0)) n c q), (7, .i .i64 sz), (8, .i .i64 k), (11, .b true), (12, .i .i64 i)]) (fun _ => imM I) (fun i => s ≤ i ∧ i ≤ sz ∧ allB I (o + s) (i - s) 0 = true) (fun i => sz - i)
    (fun _ => [(0, .i .i64 b), (1, .i .i64 p), (2, .sl (some (0,0)) n c q), (7, .i .i64 sz), (8, .i .i64 k)]) (fun _ => imM I) (fun _ => False) 2 [0] s rfl ⟨Nat.le_refl _, by omega, by rw [Nat.sub_self]; rfl⟩ (jSb (by simp [jVb, jOb, jMb, mapL_cellsR, okL_cellsR]) (by simp only [jSl, jOb, jMb, Nat.reduceAdd, Nat.reduceLT] <;> exact jClo)) rfl ?_ ?_
  · rintro i ⟨hi1, hi2, hi3⟩
    by_cases hlt : i < sz
    · obtain ⟨y, hy⟩ : ∃ y, I[o + i]? = some y := ⟨_, List.getElem?_eq_getElem (by omega)⟩
      have hoi : (o : Int) + (i : Int) = ((o + i : Nat) : Int) := by omega
      have hsu := allB_succ (xs := I) (o := o + s) (n := i - s) (v := 0) (x := y) (by rw [show o + s + (i - s) = o + i by omega]; exact hy)
      rw [hi3, Bool.true_and, show i - s + 1 = i + 1 - s by omega] at hsu
      by_cases hyv : y = 0
      · subst hyv
        iterate 2 refine jq ?_
        refine jg ?_
        iterate 2 refine jo ?_
        refine jDT ?_
        refine je ?_
        refine WS.pcondT rfl rfl ?_
        refine WS.pskip rfl ?_
        refine jq ?_
        refine WS.pblock rfl ?_
        refine jq ?_
        refine jg ?_
        iterate 3 refine jo ?_
        refine WS.po (tb := tb) rfl rfl rfl rfl (step_P (evP_mulV rfl rfl rfl (by assumption) (by simp only [lo]; omega) (by simp only [Am.hi]; omega))) ?_
        refine jo ?_
        refine WS.po (tb := tb) rfl rfl rfl rfl (step_P (evP_addV rfl rfl rfl (by assumption) (by simp only [lo]; omega) (by simp only [Am.hi]; omega))) ?_
        refine jI ?_
        refine WS.po (tb := tb) rfl rfl rfl rfl (step_R rfl (evR_load rfl rfl rfl rfl (cellsI_get hy))) ?_
        refine jo ?_
        refine je ?_
        refine jq ?_
        refine jg ?_
        iterate 3 refine jo ?_
        refine jB false ?_
        iterate 3 refine jo ?_
        refine jB false ?_
        refine jo ?_
        iterate 2 refine jN ?_
        iterate 2 refine jo ?_
        refine je ?_
        refine WS.pcondF rfl rfl ?_
        refine WS.pskip rfl ?_
        refine jg ?_
        refine jo ?_
        refine jW ?_
        refine jo ?_
        refine je ?_
        refine WS.nil ?_
        exact ⟨i + 1, ⟨by omega, by omega, by rw [hsu]; rfl⟩, by omega, (jSn [0] (by simp [jVb, jOb, jMb, mapL_cellsR, okL_cellsR]) (by simp only [jSl, jOb, jMb, Nat.reduceAdd, Nat.reduceLT] <;> exact jClo))⟩
      · refine WS.pseq rfl ?_
        refine jq ?_
        refine jg ?_
        iterate 2 refine jo ?_
        refine jDT ?_
        refine je ?_
        refine WS.pcondT rfl rfl ?_
        refine WS.pskip rfl ?_
        refine jq ?_
        refine WS.pblock rfl ?_
        refine jq ?_
        refine jg ?_
        iterate 3 refine jo ?_
        refine WS.po (tb := tb) rfl rfl rfl rfl (step_P (evP_mulV rfl rfl rfl (by assumption) (by simp only [lo]; omega) (by simp only [Am.hi]; omega))) ?_
        refine jo ?_
        refine WS.po (tb := tb) rfl rfl rfl rfl (step_P (evP_addV rfl rfl rfl (by assumption) (by simp only [lo]; omega) (by simp only [Am.hi]; omega))) ?_
        refine jI ?_
        refine WS.po (tb := tb) rfl rfl rfl rfl (step_R rfl (evR_load rfl rfl rfl rfl (cellsI_get hy))) ?_
        refine jo ?_
        refine je ?_
        refine jq ?_
        refine jg ?_
        iterate 3 refine jo ?_
        refine jNT ?_
        iterate 2 refine jo ?_
        iterate 6 refine jN ?_
        refine jo ?_
        refine je ?_
        refine WS.pcondT rfl rfl ?_
        refine jq ?_
        refine jg ?_
        refine jo ?_
        refine je ?_
        refine WS.pret rfl ?_
        exact ⟨rfl, _, rfl, _, rfl, rfl, rfl⟩
    · obtain rfl : i = sz := by omega
      rw [hA] at hi3; cases hi3
  · rintro _ hf; exact hf.elim
theorem rt_nx3 (b p W n c sz o : Nat) (q : Bool) (I : List Int) (h2 : b ≤ 64) (h4 : p ≤ 32) (hbW : (b : Int) * sz = (W : Int)) (hW : W ≤ 680000) (hsz : sz = p * 68) (h : n = W + 2 * b) (hI : I.length = n) (hB : BytF I W) (k : Nat) (hk : k < b) (ho : (k : Int) * sz = (o : Int)) (ho3 : o + sz ≤ W) (hfl : fgI I W k = 3) (hxp : nxI I W k ≤ p) (hx0 : ¬ nxI I W k = 0) :
    WS Try.prog (frameN Try.f30 3) 1 [.c (k1 (k1 (k2 (k1 (k2 (k2 (k2 (kb Try.f30))))))))] (slt (rtSl b p n c sz q k)) (mem 0 (imM I)) (RtN I) := by
  have g1 : I[W + 2 * k]? = some (fgI I W k) := getD_get (by omega)
  have g2 : I[W + 2 * k + 1]? = some (nxI I W k) := getD_get (by omega)
  have hf := hB _ _ (by omega) g1
  have hn := hB _ _ (by omega) g2
  have hx1 : (W : Int) + 2 * (k : Int) = ((W + 2 * k : Nat) : Int) := by omega
  have hx2 : (W : Int) + 2 * (k : Int) + 1 = ((W + 2 * k + 1 : Nat) : Int) := by omega
  obtain ⟨x, hx⟩ : ∃ x : Nat, nxI I W k = x := ⟨(nxI I W k).toNat, by omega⟩
  rw [hx] at g2 hn
  obtain ⟨s, hs⟩ : ∃ s : Nat, (x : Int) * 68 = (s : Int) := ⟨x * 68, by omega⟩
  rw [hx] at hxp hx0
  rw [hfl] at g1
  simp only [rtSl]
  iterate 2 refine jq ?_
  refine jg ?_
  iterate 2 refine jo ?_
  refine jDT ?_
  refine je ?_
  refine WS.pcondT rfl rfl ?_
  refine WS.pskip rfl ?_
  refine jq ?_
  refine WS.pblock rfl ?_
  refine jq ?_
  refine jg ?_
  iterate 3 refine jo ?_
  refine WS.po (tb := tb) rfl rfl rfl rfl (step_P (evP_mulV rfl rfl rfl (by assumption) (by simp only [lo]; omega) (by simp only [Am.hi]; omega))) ?_
  refine jo ?_
  refine jW ?_
  refine WS.po (tb := tb) rfl rfl rfl rfl (step_P (evP_addV rfl rfl rfl (by assumption) (by simp only [lo]; omega) (by simp only [Am.hi]; omega))) ?_
  refine jI ?_
  refine WS.po (tb := tb) rfl rfl rfl rfl (step_R rfl (evR_load rfl rfl rfl rfl (cellsI_get g1))) ?_
  refine jo ?_
  refine je ?_
  refine jq ?_
  refine jg ?_
  iterate 3 refine jo ?_
  refine WS.po (tb := tb) rfl rfl rfl rfl (step_P (evP_mulV rfl rfl rfl (by assumption) (by simp only [lo]; omega) (by simp only [Am.hi]; omega))) ?_
  refine jo ?_
  refine jW ?_
  refine WS.po (tb := tb) rfl rfl rfl rfl (step_P (evP_addV rfl rfl rfl (by assumption) (by simp only [lo]; omega) (by simp only [Am.hi]; omega))) ?_
  refine WS.po (tb := tb) rfl rfl rfl rfl (step_P (evP_addV rfl rfl rfl (by assumption) (by simp only [lo]; omega) (by simp only [Am.hi]; omega))) ?_
  refine jI ?_
  refine WS.po (tb := tb) rfl rfl rfl rfl (step_R rfl (evR_load rfl rfl rfl rfl (cellsI_get g2))) ?_
  refine jW ?_
  refine jo ?_
  refine je ?_
  refine jq ?_
  refine jg ?_
  iterate 2 refine jo ?_
  refine jB true ?_
  refine jo ?_
  refine je ?_
  iterate 2 refine jq ?_
  refine jg ?_
  refine jo ?_
  refine jB false ?_
  iterate 3 refine jo ?_
  refine jDF ?_
  iterate 5 refine jo ?_
  refine jNT ?_
  iterate 2 refine jo ?_
  refine je ?_
  refine WS.pcondT rfl rfl ?_
  refine jq ?_
  refine jg ?_
  refine jo ?_
  refine je ?_
  refine WS.pret rfl ?_
  exact ⟨rfl, _, rfl, _, rfl, rfl, rfl⟩
theorem rt_big (b p W n c sz o : Nat) (q : Bool) (I : List Int) (h2 : b ≤ 64) (h4 : p ≤ 32) (hbW : (b : Int) * sz = (W : Int)) (hW : W ≤ 680000) (hsz : sz = p * 68) (h : n = W + 2 * b) (hI : I.length = n) (hB : BytF I W) (k : Nat) (hk : k < b) (ho : (k : Int) * sz = (o : Int)) (ho3 : o + sz ≤ W) (hfl : ¬ fgI I W k ≤ 3) :
    WS Try.prog (frameN Try.f30 3) 1 [.c (k1 (k1 (k2 (k1 (k2 (k2 (k2 (kb Try.f30))))))))] (slt (rtSl b p n c sz q k)) (mem 0 (imM I)) (RtN I) := by
  have g1 : I[W + 2 * k]? = some (fgI I W k) := getD_get (by omega)
  have g2 : I[W + 2 * k + 1]? = some (nxI I W k) := getD_get (by omega)
  have hf := hB _ _ (by omega) g1
  have hn := hB _ _ (by omega) g2
  have hx1 : (W : Int) + 2 * (k : Int) = ((W + 2 * k : Nat) : Int) := by omega
  have hx2 : (W : Int) + 2 * (k : Int) + 1 = ((W + 2 * k + 1 : Nat) : Int) := by omega
  obtain ⟨x, hx⟩ : ∃ x : Nat, nxI I W k = x := ⟨(nxI I W k).toNat, by omega⟩
  rw [hx] at g2 hn
  obtain ⟨s, hs⟩ : ∃ s : Nat, (x : Int) * 68 = (s : Int) := ⟨x * 68, by omega⟩
  simp only [rtSl]
  iterate 2 refine jq ?_
  refine jg ?_
  iterate 2 refine jo ?_
  refine jDT ?_
  refine je ?_
  refine WS.pcondT rfl rfl ?_
  refine WS.pskip rfl ?_
  refine jq ?_
  refine WS.pblock rfl ?_
  refine jq ?_
  refine jg ?_
  iterate 3 refine jo ?_
  refine WS.po (tb := tb) rfl rfl rfl rfl (step_P (evP_mulV rfl rfl rfl (by assumption) (by simp only [lo]; omega) (by simp only [Am.hi]; omega))) ?_
  refine jo ?_
  refine jW ?_
  refine WS.po (tb := tb) rfl rfl rfl rfl (step_P (evP_addV rfl rfl rfl (by assumption) (by simp only [lo]; omega) (by simp only [Am.hi]; omega))) ?_
  refine jI ?_
  refine WS.po (tb := tb) rfl rfl rfl rfl (step_R rfl (evR_load rfl rfl rfl rfl (cellsI_get g1))) ?_
  refine jo ?_
  refine je ?_
  refine jq ?_
  refine jg ?_
  iterate 3 refine jo ?_
  refine WS.po (tb := tb) rfl rfl rfl rfl (step_P (evP_mulV rfl rfl rfl (by assumption) (by simp only [lo]; omega) (by simp only [Am.hi]; omega))) ?_
  refine jo ?_
  refine jW ?_
  refine WS.po (tb := tb) rfl rfl rfl rfl (step_P (evP_addV rfl rfl rfl (by assumption) (by simp only [lo]; omega) (by simp only [Am.hi]; omega))) ?_
  refine WS.po (tb := tb) rfl rfl rfl rfl (step_P (evP_addV rfl rfl rfl (by assumption) (by simp only [lo]; omega) (by simp only [Am.hi]; omega))) ?_
  refine jI ?_
  refine WS.po (tb := tb) rfl rfl rfl rfl (step_R rfl (evR_load rfl rfl rfl rfl (cellsI_get g2))) ?_
  refine jW ?_
  refine jo ?_
  refine je ?_
  refine jq ?_
  refine jg ?_
  iterate 4 refine jo ?_
  refine je ?_
  iterate 2 refine jq ?_
  refine jg ?_
  refine jo ?_
  refine jDT ?_
  refine jo ?_
  iterate 3 refine jN ?_
  iterate 2 refine jo ?_
  iterate 5 refine jN ?_
  refine jo ?_
  refine je ?_
  refine WS.pcondT rfl rfl ?_
  refine jq ?_
  refine jg ?_
  refine jo ?_
  refine je ?_
  refine WS.pret rfl ?_
  exact ⟨rfl, _, rfl, _, rfl, rfl, rfl⟩
theorem rt_far (b p W n c sz o : Nat) (q : Bool) (I : List Int) (h2 : b ≤ 64) (h4 : p ≤ 32) (hbW : (b : Int) * sz = (W : Int)) (hW : W ≤ 680000) (hsz : sz = p * 68) (h : n = W + 2 * b) (hI : I.length = n) (hB : BytF I W) (k : Nat) (hk : k < b) (ho : (k : Int) * sz = (o : Int)) (ho3 : o + sz ≤ W) (hfl : fgI I W k ≤ 3) (hxp : ¬ nxI I W k ≤ p) :
    WS Try.prog (frameN Try.f30 3) 1 [.c (k1 (k1 (k2 (k1 (k2 (k2 (k2 (kb Try.f30))))))))] (slt (rtSl b p n c sz q k)) (mem 0 (imM I)) (RtN I) := by
  have g1 : I[W + 2 * k]? = some (fgI I W k) := getD_get (by omega)
  have g2 : I[W + 2 * k + 1]? = some (nxI I W k) := getD_get (by omega)
  have hf := hB _ _ (by omega) g1
  have hn := hB _ _ (by omega) g2
  have hx1 : (W : Int) + 2 * (k : Int) = ((W + 2 * k : Nat) : Int) := by omega
  have hx2 : (W : Int) + 2 * (k : Int) + 1 = ((W + 2 * k + 1 : Nat) : Int) := by omega
  obtain ⟨x, hx⟩ : ∃ x : Nat, nxI I W k = x := ⟨(nxI I W k).toNat, by omega⟩
  rw [hx] at g2 hn
  obtain ⟨s, hs⟩ : ∃ s : Nat, (x : Int) * 68 = (s : Int) := ⟨x * 68, by omega⟩
  rw [hx] at hxp
  simp only [rtSl]
  iterate 2 refine jq ?_
  refine jg ?_
  iterate 2 refine jo ?_
  refine jDT ?_
  refine je ?_
  refine WS.pcondT rfl rfl ?_
  refine WS.pskip rfl ?_
  refine jq ?_
  refine WS.pblock rfl ?_
  refine jq ?_
  refine jg ?_
  iterate 3 refine jo ?_
  refine WS.po (tb := tb) rfl rfl rfl rfl (step_P (evP_mulV rfl rfl rfl (by assumption) (by simp only [lo]; omega) (by simp only [Am.hi]; omega))) ?_
  refine jo ?_
  refine jW ?_
  refine WS.po (tb := tb) rfl rfl rfl rfl (step_P (evP_addV rfl rfl rfl (by assumption) (by simp only [lo]; omega) (by simp only [Am.hi]; omega))) ?_
  refine jI ?_
  refine WS.po (tb := tb) rfl rfl rfl rfl (step_R rfl (evR_load rfl rfl rfl rfl (cellsI_get g1))) ?_
  refine jo ?_
  refine je ?_
  refine jq ?_
  refine jg ?_
  iterate 3 refine jo ?_
  refine WS.po (tb := tb) rfl rfl rfl rfl (step_P (evP_mulV rfl rfl rfl (by assumption) (by simp only [lo]; omega) (by simp only [Am.hi]; omega))) ?_
  refine jo ?_
  refine jW ?_
  refine WS.po (tb := tb) rfl rfl rfl rfl (step_P (evP_addV rfl rfl rfl (by assumption) (by simp only [lo]; omega) (by simp only [Am.hi]; omega))) ?_
  refine WS.po (tb := tb) rfl rfl rfl rfl (step_P (evP_addV rfl rfl rfl (by assumption) (by simp only [lo]; omega) (by simp only [Am.hi]; omega))) ?_
  refine jI ?_
  refine WS.po (tb := tb) rfl rfl rfl rfl (step_R rfl (evR_load rfl rfl rfl rfl (cellsI_get g2))) ?_
  refine jW ?_
  refine jo ?_
  refine je ?_
  refine jq ?_
  refine jg ?_
  iterate 4 refine jo ?_
  refine je ?_
  iterate 2 refine jq ?_
  refine jg ?_
  refine jo ?_
  refine jDF ?_
  iterate 3 refine jo ?_
  refine jDT ?_
  iterate 2 refine jo ?_
  iterate 5 refine jN ?_
  refine jo ?_
  refine je ?_
  refine WS.pcondT rfl rfl ?_
  refine jq ?_
  refine jg ?_
  refine jo ?_
  refine je ?_
  refine WS.pret rfl ?_
  exact ⟨rfl, _, rfl, _, rfl, rfl, rfl⟩
theorem rt_step (b p W n c sz : Nat) (q : Bool) (I : List Int) (h2 : b ≤ 64) (h4 : p ≤ 32) (hbW : (b : Int) * sz = (W : Int)) (hW : W ≤ 680000) (hsz : sz = p * 68) (h : n = W + 2 * b) (hI : I.length = n) (hB : BytF I W) (k : Nat) (hk : k < b) (ok : okBk I p W k) : WS Try.prog (frameN Try.f30 3) 1 [.c (k1 (k1 (k2 (k1 (k2 (k2 (k2 (kb Try.f30))))))))] (slt (rtSl b p n c sz q k)) (mem 0 (imM I)) (RtY b p n c sz q I k) := by
  have hp1 : (k + 1) * sz ≤ b * sz := Nat.mul_le_mul hk (Nat.le_refl _)
  have hp2 : (k + 1) * sz = k * sz + sz := Nat.succ_mul _ _
  have hbW2 : b * sz = W := by exact_mod_cast hbW
  have ho : (k : Int) * sz = ((k * sz : Nat) : Int) := by push_cast; rfl
  have ho3 : k * sz + sz ≤ W := by omega
  have g1 : I[W + 2 * k]? = some (fgI I W k) := getD_get (by omega)
  have hf := hB _ _ (by omega) g1
  have g2 : I[W + 2 * k + 1]? = some (nxI I W k) := getD_get (by omega)
  have hn := hB _ _ (by omega) g2
  obtain ⟨k1, k2, k3, k4⟩ := ok
  rw [← hsz] at k3 k4
  by_cases f0 : fgI I W k = 0
  · exact rt_ok0 b p W n c sz (k * sz) q I h2 h4 hbW hW hsz h hI hB k hk ho ho3 f0 k2 (k3 (by omega))
  · by_cases f1 : fgI I W k = 1
    · exact rt_ok1 b p W n c sz (k * sz) q I h2 h4 hbW hW hsz h hI hB k hk ho ho3 f1 k2 (k3 (by omega))
    · obtain ⟨k5, k6⟩ := k4 (by omega)
      by_cases f2 : fgI I W k = 2
      · exact rt_ok2 b p W n c sz (k * sz) q I h2 h4 hbW hW hsz h hI hB k hk ho ho3 f2 k5 k6
      · exact rt_ok3 b p W n c sz (k * sz) q I h2 h4 hbW hW hsz h hI hB k hk ho ho3 (by omega) k5 k6
theorem rt_stop (b p W n c sz : Nat) (q : Bool) (I : List Int) (h2 : b ≤ 64) (h4 : p ≤ 32) (hbW : (b : Int) * sz = (W : Int)) (hW : W ≤ 680000) (hsz : sz = p * 68) (h : n = W + 2 * b) (hI : I.length = n) (hB : BytF I W) (k : Nat) (hk : k < b) (no : ¬ okBk I p W k) : WS Try.prog (frameN Try.f30 3) 1 [.c (k1 (k1 (k2 (k1 (k2 (k2 (k2 (kb Try.f30))))))))] (slt (rtSl b p n c sz q k)) (mem 0 (imM I)) (RtN I) := by
  have hp1 : (k + 1) * sz ≤ b * sz := Nat.mul_le_mul hk (Nat.le_refl _)
  have hp2 : (k + 1) * sz = k * sz + sz := Nat.succ_mul _ _
  have hbW2 : b * sz = W := by exact_mod_cast hbW
  have ho : (k : Int) * sz = ((k * sz : Nat) : Int) := by push_cast; rfl
  have ho3 : k * sz + sz ≤ W := by omega
  have g1 : I[W + 2 * k]? = some (fgI I W k) := getD_get (by omega)
  have hf := hB _ _ (by omega) g1
  have g2 : I[W + 2 * k + 1]? = some (nxI I W k) := getD_get (by omega)
  have hn := hB _ _ (by omega) g2
  by_cases k1 : fgI I W k ≤ 3
  · by_cases k2 : nxI I W k ≤ p
    · by_cases f0 : fgI I W k = 0
      · refine rt_no0 b p W n c sz (k * sz) q I h2 h4 hbW hW hsz h hI hB k hk ho ho3 f0 k2 (Bool.eq_false_iff.2 fun e => no ⟨k1, k2, fun _ => ?_, fun h => by omega⟩)
        rw [← hsz]; exact e
      · by_cases f1 : fgI I W k = 1
        · refine rt_no1 b p W n c sz (k * sz) q I h2 h4 hbW hW hsz h hI hB k hk ho ho3 f1 k2 (Bool.eq_false_iff.2 fun e => no ⟨k1, k2, fun _ => ?_, fun h => by omega⟩)
          rw [← hsz]; exact e
        · by_cases k5 : nxI I W k = 0
          · have k6 : allB I (k * sz) sz 0 = false := Bool.eq_false_iff.2 fun e => no ⟨k1, k2, fun h => by omega, fun _ => ⟨k5, by rw [← hsz]; exact e⟩⟩
            by_cases f2 : fgI I W k = 2
            · exact rt_no2 b p W n c sz (k * sz) q I h2 h4 hbW hW hsz h hI hB k hk ho ho3 f2 k5 k6
            · exact rt_no3 b p W n c sz (k * sz) q I h2 h4 hbW hW hsz h hI hB k hk ho ho3 (by omega) k5 k6
          · by_cases f2 : fgI I W k = 2
            · exact rt_nx2 b p W n c sz (k * sz) q I h2 h4 hbW hW hsz h hI hB k hk ho ho3 f2 k2 k5
            · exact rt_nx3 b p W n c sz (k * sz) q I h2 h4 hbW hW hsz h hI hB k hk ho ho3 (by omega) k2 k5
    · exact rt_far b p W n c sz (k * sz) q I h2 h4 hbW hW hsz h hI hB k hk ho ho3 k1 k2
  · exact rt_big b p W n c sz (k * sz) q I h2 h4 hbW hW hsz h hI hB k hk ho ho3 k1
theorem right_yes (b p W n c sz : Nat) (q : Bool) (I : List Int) (h2 : b ≤ 64) (h4 : p ≤ 32) (hbW : (b : Int) * sz = (W : Int)) (hW : W ≤ 680000) (hsz : sz = p * 68) (h : n = W + 2 * b) (hI : I.length = n) (hB : BytF I W) (hok : ∀ k, k < b → okBk I p W k) :
    FM Try.prog 30 [.i .i64 b, .i .i64 p, .sl (some (0,0)) n c q] (imM I) (fun v M' => v = .b true ∧ M' = imM I) := by
  have hs2 : (p : Int) * 68 = (sz : Int) := by omega
  refine FM.pbody (tb := tb) (fn := Try.f30) rfl rfl ?_
  simp only [argS, Nat.reduceAdd, List.length_cons, List.length_nil]
  refine jq ?_
  refine jg ?_
  refine jo ?_
  refine je ?_
  refine jq ?_
  refine jg ?_
  refine jo ?_
  refine WS.po (tb := tb) rfl rfl rfl rfl (step_P (evP_mulV rfl rfl rfl (by assumption) (by simp only [lo]; omega) (by simp only [Am.hi]; omega))) ?_
  refine jo ?_
  refine je ?_
  iterate 2 refine jq ?_
  refine jg ?_
  iterate 4 refine jo ?_
  refine WS.po (tb := tb) rfl rfl rfl rfl (step_P (evP_mulV rfl rfl rfl (by assumption) (by simp only [lo]; omega) (by simp only [Am.hi]; omega))) ?_
  refine jo ?_
  iterate 2 refine jW ?_
  refine jNF ?_
  refine je ?_
  refine WS.pcondF rfl rfl ?_
  refine WS.pskip rfl ?_
  iterate 2 refine jq ?_
  refine jg ?_
  refine jo ?_
  refine je ?_
  refine WS.pblock rfl ?_
  refine WS.ploopI (σ := Nat) (τ := Unit) (rtSl b p n c sz q) (fun _ => imM I) (fun j => j ≤ b) (fun j => b - j) (fun _ => []) (fun _ => imM I) (fun _ => True) 0 [0] 0 rfl (Nat.zero_le _) (jSb (by simp [jVb, jOb, jMb, mapL_cellsR, okL_cellsR, rtSl]) (by simp only [jSl, jOb, jMb, Nat.reduceAdd, Nat.reduceLT, rtSl] <;> exact jClo)) rfl ?_ ?_
  · intro j hj
    by_cases hlt : j < b
    · refine WE.mono (fun x t' h' hq => ?_) (rt_step b p W n c sz q I h2 h4 hbW hW hsz h hI hB j hlt (hok j hlt))
      obtain ⟨rfl, hs⟩ := hq
      exact ⟨j + 1, hlt, by omega, hs⟩
    · obtain rfl : j = b := by omega
      simp only [rtSl]
      iterate 2 refine jq ?_
      refine jg ?_
      iterate 2 refine jo ?_
      refine jDF ?_
      refine je ?_
      refine WS.pcondF rfl rfl ?_
      refine WS.pout rfl rfl ?_
      exact ⟨rfl, (), trivial, (jSn [0] (by simp [jVb, jOb, jMb, mapL_cellsR, okL_cellsR]) (by simp only [jSl, jOb, jMb, Nat.reduceAdd, Nat.reduceLT] <;> exact jClo))⟩
  · rintro _ -
    refine jq ?_
    refine jg ?_
    refine jo ?_
    refine je ?_
    refine WS.pret rfl ⟨.inr rfl, _, rfl, ?_⟩
    exact ⟨_, rfl, rfl, rfl⟩
theorem right_no (b p W n c sz : Nat) (q : Bool) (I : List Int) (h2 : b ≤ 64) (h4 : p ≤ 32) (hbW : (b : Int) * sz = (W : Int)) (hW : W ≤ 680000) (hsz : sz = p * 68) (h : n = W + 2 * b) (hI : I.length = n) (hB : BytF I W) (m : Nat) (hm : m < b) (hno : ¬ okBk I p W m) (hok : ∀ k, k < m → okBk I p W k) :
    FM Try.prog 30 [.i .i64 b, .i .i64 p, .sl (some (0,0)) n c q] (imM I) (fun v M' => v = .b false ∧ M' = imM I) := by
  have hs2 : (p : Int) * 68 = (sz : Int) := by omega
  refine FM.pbody (tb := tb) (fn := Try.f30) rfl rfl ?_
  simp only [argS, Nat.reduceAdd, List.length_cons, List.length_nil]
  refine jq ?_
  refine jg ?_
  refine jo ?_
  refine je ?_
  refine jq ?_
  refine jg ?_
  refine jo ?_
  refine WS.po (tb := tb) rfl rfl rfl rfl (step_P (evP_mulV rfl rfl rfl (by assumption) (by simp only [lo]; omega) (by simp only [Am.hi]; omega))) ?_
  refine jo ?_
  refine je ?_
  iterate 2 refine jq ?_
  refine jg ?_
  iterate 4 refine jo ?_
  refine WS.po (tb := tb) rfl rfl rfl rfl (step_P (evP_mulV rfl rfl rfl (by assumption) (by simp only [lo]; omega) (by simp only [Am.hi]; omega))) ?_
  refine jo ?_
  iterate 2 refine jW ?_
  refine jNF ?_
  refine je ?_
  refine WS.pcondF rfl rfl ?_
  refine WS.pskip rfl ?_
  iterate 2 refine jq ?_
  refine jg ?_
  refine jo ?_
  refine je ?_
  refine WS.pblock rfl ?_
  refine WS.ploopI (σ := Nat) (τ := Unit) (rtSl b p n c sz q) (fun _ => imM I) (fun j => j ≤ m) (fun j => m + 1 - j) (fun _ => []) (fun _ => []) (fun _ => False) 0 [0] 0 rfl (Nat.zero_le _) (jSb (by simp [jVb, jOb, jMb, mapL_cellsR, okL_cellsR, rtSl]) (by simp only [jSl, jOb, jMb, Nat.reduceAdd, Nat.reduceLT, rtSl] <;> exact jClo)) rfl ?_ ?_
  · intro j hj
    by_cases hlt : j < m
    · refine WE.mono (fun x t' h' hq => ?_) (rt_step b p W n c sz q I h2 h4 hbW hW hsz h hI hB j (by omega) (hok j hlt))
      obtain ⟨rfl, hs⟩ := hq
      exact ⟨j + 1, hlt, by omega, hs⟩
    · obtain rfl : j = m := by omega
      refine WE.mono (fun x t' h' hq => ?_) (rt_stop b p W n c sz q I h2 h4 hbW hW hsz h hI hB j hm hno)
      cases x with
      | n => exact absurd hq.1 (by simp)
      | x i => exact absurd hq.1 (by simp)
      | r => exact ⟨.inr rfl, hq.2⟩
  · rintro _ h
    exact h.elim
end Go.Proofs.Ytmkolibmadbenaa.Am

