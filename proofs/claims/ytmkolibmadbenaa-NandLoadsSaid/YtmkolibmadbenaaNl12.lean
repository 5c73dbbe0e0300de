/- Functions of the flash, walked. Conditions: those of each theorem. -/
import Derived.Test.YtmkolibmadbenaaAm5
import Derived.Test.YtmkolibmadbenaaNl10
import Derived.Test.YtmkolibmadbenaaNl4
import Derived.Test.YtmkolibmadbenaaNl5
namespace Go.Proofs.Ytmkolibmadbenaa.Am
open Go.Proofs
set_option maxRecDepth 1000000
set_option maxHeartbeats 4000000
set_option linter.unusedSimpArgs false
set_option linter.unusedVariables false
theorem xor_b (u v : Int) : 0 ≤ Go.bits .xor .u8 u v ∧ Go.bits .xor .u8 u v ≤ 255 := by
  simp only [Go.bits, IntKind.wrap, IntKind.bits, IntKind.signed]
  simp; omega
theorem least {P : Nat → Prop} : ∀ b, (∀ k, k < b → P k) ∨ ∃ m, m < b ∧ ¬ P m ∧ ∀ k, k < m → P k
  | 0 => .inl fun k h => absurd h (Nat.not_lt_zero k)
  | b + 1 => by
    rcases least (P := P) b with h | ⟨m, h1, h2, h3⟩
    · by_cases hb : P b
      · exact .inl fun k hk => by
          by_cases e : k < b
          · exact h k e
          · obtain rfl : k = b := by omega
            exact hb
      · exact .inr ⟨b, Nat.lt_succ_self b, hb, h⟩
    · exact .inr ⟨m, by omega, h2, h3⟩
theorem fin_yes (b p np W n : Nat) (l : List Act) (I : List Int) (h1 : 1 ≤ b) (h2 : b ≤ 8) (h3 : 1 ≤ p) (h4 : p ≤ 8) (hp : (b : Int) * p = (np : Int)) (hnp : np ≤ 10000) (hW : W = np * 68) (h : n = W + 2 * b) (hI : I.length = n) (hB : BytF I W) (hok : ∀ k, k < b → okBk I p W k) : WS Try.prog (frameN Try.f7 6) 1 [.c (k1 (k2 (k2 (k2 (k2 (k2 (k2 (k2 (k2 (k2 (k2 (k2 (k2 (k2 (kb Try.f7))))))))))))))), .c (k2 (k2 (k2 (k2 (k2 (k2 (k2 (k2 (k2 (k2 (k2 (k2 (k2 (k2 (kb Try.f7)))))))))))))))] (slt [(0, .i .i64 b), (1, .i .i64 p), (16, .sl (some (1,0)) n n true)]) (mem 0 [some ⟨cellsR rwAct l, 38, false⟩, some ⟨cellsR (rwI .u8) I, 5, true⟩]) (fun x t' h' => (x = .n ∨ x = .r) ∧ ∃ v, resV tb t' h' (Try.f7).results.toList = some v ∧ ∃ M', h' = mem 0 M' ∧ v = .b true) := by
  obtain ⟨sz, hsz⟩ : ∃ sz, sz = p * 68 := ⟨_, rfl⟩
  have hbp : b * p = np := by exact_mod_cast hp
  have hbW : b * sz = W := by rw [hsz, ← Nat.mul_assoc, hbp, hW]
  have hbW2 : (b : Int) * sz = (W : Int) := by exact_mod_cast hbW
  have LD := fun c q => load_ok b p np W n c q I h1 (by omega) h3 (by omega) hp hnp hW h hI hB hok
  have RT := fun c q => right_yes b p W n c sz q I (by omega) (by omega) hbW2 (by omega) hsz h hI hB hok
  have IL := im_ld (b := b) (by omega) hok hB
  have e1 : (I.take W).length = W := by rw [List.length_take]; omega
  have IG := image_walk (ldS I b p W) (by show 0 < (I.take W).length; rw [e1]; have := Nat.mul_le_mul h1 h3; omega) (by show (I.take W).length ≤ _; omega) (by show (bkL I W b b).length ≤ _; rw [bkL_len]; omega) (fun y hy => by
    obtain ⟨k, hk⟩ := List.mem_iff_getElem?.1 hy
    have hkb : k < b := by have := (List.getElem?_eq_some_iff.1 hk).1; rw [show (ldS I b p W).bk = bkL I W b b from rfl, bkL_len] at this; exact this
    have e : (bkL I W b b)[k]? = some (ldBk I W k) := by simp [bkL, hkb]
    rw [show (ldS I b p W).bk = bkL I W b b from rfl, e] at hk
    obtain rfl := Option.some.inj hk
    have g2 : I[W + 2 * k + 1]? = some (nxI I W k) := getD_get (by omega)
    exact hB _ _ (by omega) g2)
  rw [IL] at IG
  have hs1 : ((strOf I).toList == (strOf I).toList) = true := beq_self_eq_true _
  simp only [ndR, ldS, e1, bkL_len, List.cons_append, List.nil_append] at IG
  simp only [ldM] at LD
  refine jg ?_
  iterate 3 refine jo ?_
  refine jc [1] (LD _ _) (by simp [jOb]) (by simp [jEb, jOb, jMb, mapL_cellsR, okL_cellsR]) ?_; rintro _ _ ⟨rfl, rfl⟩ -; simp only [jPg, jMb, ll, Nat.reduceAdd, Nat.reduceLT, Nat.zero_add, if_true, if_false, Nat.reduceSub, reduceIte, mapL_cellsR, Nat.lt_irrefl, Nat.not_lt_zero, Nat.zero_lt_succ, Nat.lt_add_one]
  iterate 5 refine jo ?_
  refine je ?_
  iterate 2 refine jq ?_
  refine jg ?_
  iterate 3 refine jo ?_
  refine jc [1] (RT _ _) (by simp [jOb]) (by simp [jEb, jOb, jMb, mapL_cellsR, okL_cellsR]) ?_; rintro _ _ ⟨rfl, rfl⟩ -; simp only [jPg, jMb, ll, Nat.reduceAdd, Nat.reduceLT, Nat.zero_add, if_true, if_false, Nat.reduceSub, reduceIte, mapL_cellsR, Nat.lt_irrefl, Nat.not_lt_zero, Nat.zero_lt_succ, Nat.lt_add_one]
  refine je ?_
  refine WS.pcondT rfl rfl ?_
  refine jq ?_
  refine WS.pdrawX (tb := tb) (by kernel_rfl) rfl (by kernel_rfl) ?_; (try refine WZ.keep (l := 1) rfl ?_)
  refine WZ.p (tb := tb) rfl rfl rfl rfl rfl ?_
  refine WZ.pB (tb := tb) true rfl rfl rfl rfl rfl rfl ?_
  refine WZ.p (tb := tb) rfl rfl rfl rfl rfl ?_
  refine WZ.p (tb := tb) rfl rfl rfl rfl rfl ?_
  refine WZ.pB (tb := tb) true rfl rfl rfl rfl rfl rfl ?_
  refine WZ.p (tb := tb) rfl rfl rfl rfl rfl ?_
  refine WZ.p (tb := tb) rfl rfl rfl rfl rfl ?_
  refine WZ.p (tb := tb) rfl rfl rfl rfl rfl ?_
  refine WZ.callM (tb := tb) [2,3,4] IG rfl rfl rfl rfl rfl rfl rfl rfl (by (try simp only [mapL, mapV, ll]) <;> exact rfl) (by simp [okL, okV]; fail_if_success exfalso) rfl (by simp [embP, okL, okV, mapL, mapV, mem_next, mem_get, mem_ro, mapL_cellsR, okL_cellsR]; fail_if_success exfalso) rfl rfl rfl (by repeat (first | exact trivial | refine ⟨rfl, ?_⟩)) ?_; simp only [jPg, jMb, ll, Nat.reduceAdd, Nat.reduceLT, Nat.zero_add, if_true, if_false, Nat.reduceSub, reduceIte, mapL_cellsR, Nat.lt_irrefl, Nat.not_lt_zero, Nat.zero_lt_succ, Nat.lt_add_one]; refine WZ.keep (l := 5) rfl ?_
  refine WZ.sC (tb := tb) rfl rfl rfl rfl rfl rfl rfl rfl rfl rfl rfl rfl (fun _ hx__ => (cellsAt_rowG (R := rwI .u8) hx__ (by simp [rwI, hI]))) (by first | exact rfl | (simp only [Bk_len, Act_len, vcells, List.length_cons, List.length_nil, cellsI_len, cellsB_len, List.length_set, List.length_replicate, List.length_append, List.length_map, List.length_take, List.length_drop]; omega) | omega) ?_
  refine WZ.p (tb := tb) rfl rfl rfl rfl rfl ?_
  refine WZ.sC (tb := tb) rfl rfl rfl rfl rfl rfl rfl rfl rfl rfl rfl rfl (fun _ hx__ => (cellsAt_rowG (R := rwI .u8) hx__ (by simp [rwI, hI]))) (by first | exact rfl | (simp only [Bk_len, Act_len, vcells, List.length_cons, List.length_nil, cellsI_len, cellsB_len, List.length_set, List.length_replicate, List.length_append, List.length_map, List.length_take, List.length_drop]; omega) | omega) ?_
  refine WZ.pB (tb := tb) true rfl rfl rfl rfl rfl (by assumption) ?_
  refine WZ.p (tb := tb) rfl rfl rfl rfl rfl ?_
  refine WZ.p (tb := tb) rfl rfl rfl rfl rfl ?_
  refine WZ.fin rfl (by kernel_rfl) (by repeat (first | exact trivial | refine ⟨rfl, ?_⟩)) ?_
  refine WS.pret rfl ⟨.inr rfl, _, rfl, ?_⟩
  exact ⟨_, rfl, rfl⟩
theorem fin_no (b p np W n : Nat) (l : List Act) (I : List Int) (h1 : 1 ≤ b) (h2 : b ≤ 8) (h3 : 1 ≤ p) (h4 : p ≤ 8) (hp : (b : Int) * p = (np : Int)) (hnp : np ≤ 10000) (hW : W = np * 68) (h : n = W + 2 * b) (hI : I.length = n) (hB : BytF I W) (m : Nat) (hm : m < b) (hno : ¬ okBk I p W m) (hok : ∀ k, k < m → okBk I p W k) : WS Try.prog (frameN Try.f7 6) 1 [.c (k1 (k2 (k2 (k2 (k2 (k2 (k2 (k2 (k2 (k2 (k2 (k2 (k2 (k2 (kb Try.f7))))))))))))))), .c (k2 (k2 (k2 (k2 (k2 (k2 (k2 (k2 (k2 (k2 (k2 (k2 (k2 (k2 (kb Try.f7)))))))))))))))] (slt [(0, .i .i64 b), (1, .i .i64 p), (16, .sl (some (1,0)) n n true)]) (mem 0 [some ⟨cellsR rwAct l, 38, false⟩, some ⟨cellsR (rwI .u8) I, 5, true⟩]) (fun x t' h' => (x = .n ∨ x = .r) ∧ ∃ v, resV tb t' h' (Try.f7).results.toList = some v ∧ ∃ M', h' = mem 0 M' ∧ v = .b true) := by
  obtain ⟨sz, hsz⟩ : ∃ sz, sz = p * 68 := ⟨_, rfl⟩
  have hbp : b * p = np := by exact_mod_cast hp
  have hbW : b * sz = W := by rw [hsz, ← Nat.mul_assoc, hbp, hW]
  have hbW2 : (b : Int) * sz = (W : Int) := by exact_mod_cast hbW
  have LD := fun c q => load_bad b p np W n c q I h1 (by omega) h3 (by omega) hp hnp hW h hI hB m hm hno hok
  have RT := fun c q => right_no b p W n c sz q I (by omega) (by omega) hbW2 (by omega) hsz h hI hB m hm hno hok
  have LA := fun a n c q => load_arg 0 p a n c q [some ⟨cellsR (rwI .u8) I, 5, false⟩] (.inl (by omega))
  refine jg ?_
  iterate 3 refine jo ?_
  refine jc [1] (LD _ _) (by simp [jOb]) (by simp [jEb, jOb, jMb, mapL_cellsR, okL_cellsR]) ?_; rintro _ _ ⟨rfl, rfl⟩ -; simp only [jPg, jMb, ll, Nat.reduceAdd, Nat.reduceLT, Nat.zero_add, if_true, if_false, Nat.reduceSub, reduceIte, mapL_cellsR, Nat.lt_irrefl, Nat.not_lt_zero, Nat.zero_lt_succ, Nat.lt_add_one]
  iterate 5 refine jo ?_
  refine je ?_
  iterate 2 refine jq ?_
  refine jg ?_
  iterate 3 refine jo ?_
  refine jc [1] (RT _ _) (by simp [jOb]) (by simp [jEb, jOb, jMb, mapL_cellsR, okL_cellsR]) ?_; rintro _ _ ⟨rfl, rfl⟩ -; simp only [jPg, jMb, ll, Nat.reduceAdd, Nat.reduceLT, Nat.zero_add, if_true, if_false, Nat.reduceSub, reduceIte, mapL_cellsR, Nat.lt_irrefl, Nat.not_lt_zero, Nat.zero_lt_succ, Nat.lt_add_one]
  refine je ?_
  refine WS.pcondF rfl rfl ?_
  refine WS.pskip rfl ?_
  refine jq ?_
  refine jg ?_
  iterate 2 refine jo ?_
  refine jc [1] (LA (some (0,0)) _ _ _) (by simp [jOb]) (by simp [jEb, jOb, jMb, mapL_cellsR, okL_cellsR]) ?_; rintro _ _ ⟨rfl, rfl⟩ -; simp only [jPg, jMb, ll, Nat.reduceAdd, Nat.reduceLT, Nat.zero_add, if_true, if_false, Nat.reduceSub, reduceIte, mapL_cellsR, Nat.lt_irrefl, Nat.not_lt_zero, Nat.zero_lt_succ, Nat.lt_add_one]
  iterate 5 refine jo ?_
  refine je ?_
  refine jq ?_
  refine jg ?_
  refine jo ?_
  refine jB true ?_
  iterate 2 refine jo ?_
  refine jB true ?_
  iterate 3 refine jo ?_
  refine jB true ?_
  iterate 2 refine jo ?_
  refine je ?_
  refine WS.pret rfl ⟨.inr rfl, _, rfl, ?_⟩
  exact ⟨_, rfl, rfl⟩
theorem fin_any (b p np W n : Nat) (l : List Act) (I : List Int) (h1 : 1 ≤ b) (h2 : b ≤ 8) (h3 : 1 ≤ p) (h4 : p ≤ 8) (hp : (b : Int) * p = (np : Int)) (hnp : np ≤ 10000) (hW : W = np * 68) (h : n = W + 2 * b) (hI : I.length = n) (hB : BytF I W) : WS Try.prog (frameN Try.f7 6) 1 [.c (k1 (k2 (k2 (k2 (k2 (k2 (k2 (k2 (k2 (k2 (k2 (k2 (k2 (k2 (kb Try.f7))))))))))))))), .c (k2 (k2 (k2 (k2 (k2 (k2 (k2 (k2 (k2 (k2 (k2 (k2 (k2 (k2 (kb Try.f7)))))))))))))))] (slt [(0, .i .i64 b), (1, .i .i64 p), (16, .sl (some (1,0)) n n true)]) (mem 0 [some ⟨cellsR rwAct l, 38, false⟩, some ⟨cellsR (rwI .u8) I, 5, true⟩]) (fun x t' h' => (x = .n ∨ x = .r) ∧ ∃ v, resV tb t' h' (Try.f7).results.toList = some v ∧ ∃ M', h' = mem 0 M' ∧ v = .b true) := by
  rcases least (P := okBk I p W) b with hk | ⟨m, m1, m2, m3⟩
  · exact fin_yes b p np W n l I h1 h2 h3 h4 hp hnp hW h hI hB hk
  · exact fin_no b p np W n l I h1 h2 h3 h4 hp hnp hW h hI hB m m1 m2 m3
theorem end_x (at_ by_ : Int) (b p np W n : Nat) (l : List Act) (I : List Int) (h1 : 1 ≤ b) (h2 : b ≤ 8) (h3 : 1 ≤ p) (h4 : p ≤ 8) (hp : (b : Int) * p = (np : Int)) (hnp : np ≤ 10000) (hW : W = np * 68) (h : n = W + 2 * b) (hI : I.length = n) (hB : BytF I W) : WS Try.prog (frameN Try.f7 6) 1 [.c (k1 (k1 (k2 (k2 (k2 (k2 (k2 (k2 (k2 (k2 (k2 (k2 (k2 (k2 (kb Try.f7))))))))))))))), .c (k2 (k1 (k2 (k2 (k2 (k2 (k2 (k2 (k2 (k2 (k2 (k2 (k2 (k2 (kb Try.f7))))))))))))))), .c (k2 (k2 (k2 (k2 (k2 (k2 (k2 (k2 (k2 (k2 (k2 (k2 (k2 (kb Try.f7))))))))))))))] (slt [(0, .i .i64 b), (1, .i .i64 p), (3, .i .i64 at_), (4, .i .u8 by_), (16, .sl (some (1,0)) n n true)]) (mem 0 [some ⟨cellsR rwAct l, 38, false⟩, some ⟨cellsR (rwI .u8) I, 5, true⟩]) (fun x t' h' => (x = .n ∨ x = .r) ∧ ∃ v, resV tb t' h' (Try.f7).results.toList = some v ∧ ∃ M', h' = mem 0 M' ∧ v = .b true) := by
  by_cases hin : 0 ≤ at_ ∧ at_ < n
  · obtain ⟨a, rfl⟩ : ∃ a : Nat, at_ = a := ⟨at_.toNat, by omega⟩
    obtain ⟨v, hv⟩ : ∃ v, I[a]? = some v := ⟨_, List.getElem?_eq_getElem (by omega)⟩
    have hst := cellsI_set (k := .u8) (xs := I) (x := Go.bits .xor .u8 v by_) (i := a) (by omega)
    have F := fin_any b p np W n l (I.set a (Go.bits .xor .u8 v by_)) h1 h2 h3 h4 hp hnp hW h (by rw [List.length_set]; exact hI) (fun i w hi hw => by
      rw [List.getElem?_set] at hw
      split at hw
      · split at hw
        · obtain rfl := Option.some.inj hw; exact xor_b _ _
        · cases hw
      · exact hB i w hi hw)
    refine jg ?_
    refine jo ?_
    refine jB true ?_
    iterate 4 refine jo ?_
    refine jDT ?_
    refine jo ?_
    refine je ?_
    refine WS.pcondT rfl rfl ?_
    refine jg ?_
    iterate 4 refine jo ?_
    refine jI ?_
    refine WS.po (tb := tb) rfl rfl rfl rfl (step_R rfl (evR_load rfl rfl rfl rfl (cellsI_get hv))) ?_
    iterate 2 refine jo ?_
    refine jI ?_
    refine WS.po0 (tb := tb) rfl rfl rfl rfl (step_H rfl rfl (evH_store rfl rfl rfl rfl rfl (Nat.zero_le _) rfl (by simp [vcells]) (by simp only [Bk_len, Act_len, vcells, List.length_cons, List.length_nil, cellsI_len, cellsB_len, List.length_set, List.length_replicate, List.length_append, List.length_map, List.length_take, List.length_drop]; omega))) ?_; rw [upd_mem _ rfl]; simp only [vcells, List.set_cons_zero, List.set_cons_succ, hst]; (try simp only [setL, List.set_cons_zero, List.set_cons_succ])
    refine je ?_
    refine jq ?_
    exact WS.seen [0,1] (jSb (by simp [jVb, jOb, jMb, mapL_cellsR, okL_cellsR]) (by simp only [jSl, jOb, jMb, Nat.reduceAdd, Nat.reduceLT] <;> exact jClo)) F
  · have F := fin_any b p np W n l I h1 h2 h3 h4 hp hnp hW h hI hB
    by_cases h0 : 0 ≤ at_
    · refine WS.pregion rfl ?_
      refine jo ?_
      refine jDT ?_
      iterate 4 refine jo ?_
      refine jDF ?_
      refine jo ?_
      refine je ?_
      refine WS.pcondF rfl rfl ?_
      refine WS.pskip rfl ?_
      refine jq ?_
      exact WS.seen [0,1] (jSb (by simp [jVb, jOb, jMb, mapL_cellsR, okL_cellsR]) (by simp only [jSl, jOb, jMb, Nat.reduceAdd, Nat.reduceLT] <;> exact jClo)) F
    · refine WS.pregion rfl ?_
      refine jo ?_
      refine jDF ?_
      refine jo ?_
      iterate 4 refine jN ?_
      refine jo ?_
      refine je ?_
      refine WS.pcondF rfl rfl ?_
      refine WS.pskip rfl ?_
      refine jq ?_
      exact WS.seen [0,1] (jSb (by simp [jVb, jOb, jMb, mapL_cellsR, okL_cellsR]) (by simp only [jSl, jOb, jMb, Nat.reduceAdd, Nat.reduceLT] <;> exact jClo)) F
end Go.Proofs.Ytmkolibmadbenaa.Am

