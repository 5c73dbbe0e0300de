/- Functions of the pages, walked. Conditions: those of each theorem. -/
import Derived.Test.YtnogdgdkeojlpaaAm5
import Derived.Test.YtnogdgdkeojlpaaTgc
namespace Go.Proofs.Ytnogdgdkeojlpaa.Am
open Go.Proofs
set_option maxRecDepth 1000000
set_option maxHeartbeats 4000000
set_option linter.unusedSimpArgs false
set_option linter.unusedVariables false
theorem app6 (xs : List Int) : cellsR (rwI .u32) xs ++ [V.i .u32 0, V.i .u32 0, V.i .u32 0, V.i .u32 0, V.i .u32 0, V.i .u32 0] = cellsR (rwI .u32) (xs ++ [0, 0, 0, 0, 0, 0]) := by
  rw [cellsR_app]; rfl
theorem bd_full (k a b c d e f : Int) (P : List Int) : bdStruct tb 30 [(0, .i .i64 k), (1, .i .u32 a), (2, .i .u32 b), (3, .i .u32 c), (4, .i .u32 d), (5, .i .u32 e), (6, .i .u32 f), (7, .agg (b32 P))] = some (.agg (V.i .i64 k :: V.i .u32 a :: V.i .u32 b :: V.i .u32 c :: V.i .u32 d :: V.i .u32 e :: V.i .u32 f :: b32 P)) := by kernel_rfl
theorem PageC_eq (k a b c d e f k2 a2 b2 c2 d2 e2 f2 : Int) (P Q : List Int) : eqB tb 100 30 (.agg (V.i .i64 k :: V.i .u32 a :: V.i .u32 b :: V.i .u32 c :: V.i .u32 d :: V.i .u32 e :: V.i .u32 f :: b32 P)) (.agg (V.i .i64 k2 :: V.i .u32 a2 :: V.i .u32 b2 :: V.i .u32 c2 :: V.i .u32 d2 :: V.i .u32 e2 :: V.i .u32 f2 :: b32 Q)) = decide (k = k2 ∧ a = a2 ∧ b = b2 ∧ c = c2 ∧ d = d2 ∧ e = e2 ∧ f = f2 ∧ E32 P Q) := Page_eq ..
def U32 (l : List Int) : Prop := ∀ x ∈ l, u32 x
/-- What stands behind the rows: numbers La Lb, strings x y. -/
theorem dif_tail (l m : List Int) (La Lb x y : List Int) (na nb : Nat) (hna : na = La.length) (hnb : nb = Lb.length) (h6a : 6 ≤ La.length) (h6b : 6 ≤ Lb.length) (hla : La.length ≤ 9223372036854775807) (hlb : Lb.length ≤ 9223372036854775807) (hua : U32 La) (hub : U32 Lb) (hx : Byt x) (hy : Byt y) (hxl : x.length ≤ 9223372036854775807) (hyl : y.length ≤ 9223372036854775807) :
    WS Try.prog (frameN Try.f7 4) 2 [.c (k1 (k2 (k2 (k2 (k2 (kb Try.f7)))))), .c (k2 (k2 (k2 (k2 (k2 (kb Try.f7))))))] (slt [(2, .s (strOf x)), (3, .s (strOf y)), (9, .sl (some (2,0)) na na true), (10, .sl (some (3,0)) nb nb true)]) (mem 0 [some ⟨cellsR (rwI .u32) l, 27, false⟩, some ⟨cellsR (rwI .u32) m, 27, false⟩, some ⟨cellsR (rwI .u32) La, 27, true⟩, some ⟨cellsR (rwI .u32) Lb, 27, true⟩]) (fun x t' h' => (x = .n ∨ x = .r) ∧ ∃ v, resV tb t' h' (Try.f7).results.toList = some v ∧ ∃ M', h' = mem 0 M' ∧ v = .b true) := by
  have PX := pay_walk x hx hxl
  have PY := pay_walk y hy hyl
  have hP := padB_len (s := x) (i := 32) (by omega)
  have hPB := pad_byt hx 32
  have hQ := padB_len (s := y) (i := 32) (by omega)
  have hQB := pad_byt hy 32
  generalize padB x 32 = P at *
  generalize padB y 32 = Q at *
  have ga : ∀ i, i < 6 → ∃ v, La[i]? = some v ∧ u32 v := fun i hi => ⟨_, get_at (by omega), hua _ (List.mem_of_getElem? (get_at (by omega)))⟩
  have gb : ∀ i, i < 6 → ∃ v, Lb[i]? = some v ∧ u32 v := fun i hi => ⟨_, get_at (by omega), hub _ (List.mem_of_getElem? (get_at (by omega)))⟩
  obtain ⟨u0, hu0, ru0⟩ := ga 0 (by omega)
  obtain ⟨u1, hu1, ru1⟩ := ga 1 (by omega)
  obtain ⟨u2, hu2, ru2⟩ := ga 2 (by omega)
  obtain ⟨u3, hu3, ru3⟩ := ga 3 (by omega)
  obtain ⟨u4, hu4, ru4⟩ := ga 4 (by omega)
  obtain ⟨u5, hu5, ru5⟩ := ga 5 (by omega)
  obtain ⟨w0, hw0, rw0⟩ := gb 0 (by omega)
  obtain ⟨w1, hw1, rw1⟩ := gb 1 (by omega)
  obtain ⟨w2, hw2, rw2⟩ := gb 2 (by omega)
  obtain ⟨w3, hw3, rw3⟩ := gb 3 (by omega)
  obtain ⟨w4, hw4, rw4⟩ := gb 4 (by omega)
  obtain ⟨w5, hw5, rw5⟩ := gb 5 (by omega)
  clear ga gb
  have hmu : u0.tmod 3 = u0 % 3 := Int.tmod_eq_emod_of_nonneg ru0.1
  have hku : okK (1 + u0 % 3) := by unfold okK; omega
  have hmw : w0.tmod 3 = w0 % 3 := Int.tmod_eq_emod_of_nonneg rw0.1
  have hkw : okK (1 + w0 % 3) := by unfold okK; omega
  have EU := enc_ok (1 + u0 % 3) u0 u1 u2 u3 u4 u5 P hku hP hPB
  have EW := enc_ok (1 + w0 % 3) w0 w1 w2 w3 w4 w5 Q hkw hQ hQB
  obtain ⟨DU, DU2, _⟩ := enc_dec (1 + u0 % 3) u0 u1 u2 u3 u4 u5 P hku ru0 ru1 ru2 ru3 ru4 ru5 hP hPB
  obtain ⟨DW, DW2, _⟩ := enc_dec (1 + w0 % 3) w0 w1 w2 w3 w4 w5 Q hkw rw0 rw1 rw2 rw3 rw4 rw5 hQ hQB
  have lU := encO_len (1 + u0 % 3) u0 u1 u2 u3 u4 u5 P hP
  have lW := encO_len (1 + w0 % 3) w0 w1 w2 w3 w4 w5 Q hQ
  have bU := encO_byt (1 + u0 % 3) u0 u1 u2 u3 u4 u5 P hP hPB
  have bW := encO_byt (1 + w0 % 3) w0 w1 w2 w3 w4 w5 Q hQ hQB
  have hEq : encO (1 + u0 % 3) [u0, u1, u2, u3, u4, u5] P = encO (1 + w0 % 3) [w0, w1, w2, w3, w4, w5] Q → pgV (1 + u0 % 3) u0 u1 u2 u3 u4 u5 P = pgV (1 + w0 % 3) w0 w1 w2 w3 w4 w5 Q := fun e => by rw [← DU2, ← DW2, e]
  have hEq2 : (1 + u0 % 3 = 1 + w0 % 3 ∧ u0 = w0 ∧ u1 = w1 ∧ u2 = w2 ∧ u3 = w3 ∧ u4 = w4 ∧ u5 = w5 ∧ E32 P Q) → encO (1 + u0 % 3) [u0, u1, u2, u3, u4, u5] P = encO (1 + w0 % 3) [w0, w1, w2, w3, w4, w5] Q := fun ⟨_, e0, e1, e2, e3, e4, e5, e6⟩ => by rw [e0, e1, e2, e3, e4, e5, e32_eq hP hQ e6]
  have hEq3 : pgV (1 + u0 % 3) u0 u1 u2 u3 u4 u5 P = pgV (1 + w0 % 3) w0 w1 w2 w3 w4 w5 Q → (1 + u0 % 3 = 1 + w0 % 3 ∧ u0 = w0 ∧ u1 = w1 ∧ u2 = w2 ∧ u3 = w3 ∧ u4 = w4 ∧ u5 = w5 ∧ E32 P Q) := fun e => by
    simp only [pgV, List.cons.injEq, V.i.injEq, true_and] at e
    obtain ⟨e0, e1, e2, e3, e4, e5, e6, e7⟩ := e
    exact ⟨e0, e1, e2, e3, e4, e5, e6, by rw [b32_inj hP hQ e7]; exact e32_refl _⟩
  have DCU := decK lU bU DU DU2
  have DCW := decK lW bW DW DW2
  simp only [cE] at EU EW
  generalize encO (1 + u0 % 3) [u0, u1, u2, u3, u4, u5] P = U at *
  generalize encO (1 + w0 % 3) [w0, w1, w2, w3, w4, w5] Q = W at *
  have hku2 : 0 ≤ u0 % 3 ∧ u0 % 3 ≤ 2 := by omega
  have hkw2 : 0 ≤ w0 % 3 ∧ w0 % 3 ≤ 2 := by omega
  clear hua hub DU DU2 DW DW2 hku hkw
  generalize u0 % 3 = ku at *
  generalize w0 % 3 = kw at *
  subst hna hnb
  simp only [pgV] at DCU DCW
  by_cases hE : (1 + ku = 1 + kw ∧ u0 = w0 ∧ u1 = w1 ∧ u2 = w2 ∧ u3 = w3 ∧ u4 = w4 ∧ u5 = w5 ∧ E32 P Q)
  · have hs : ((strOf U).toList == (strOf W).toList) = true := by rw [hEq2 hE]; exact beq_self_eq_true _
    clear hEq hEq2 hEq3
    refine WS.hasD 58 rfl ?_; refine WS.pdrawF (tb := tb) [] PX (by exact rfl) (by kernel_rfl) rfl (by kernel_rfl) (by kernel_rfl) (by (try simp only [mapL, mapV, ll]) <;> exact rfl) (by simp [okL, okV, okL_b32, mapL_b32, pgV]) rfl (by simp [embP, okL, okV, mapL, mapV, mem_next, mem_get, mem_ro, mapL_cellsR, okL_cellsR, okL_b32, mapL_b32, pgV]; fail_if_success exfalso) rfl (by first | trivial | simp [okV, okL]) (fun _ => ?_)
    refine jp ?_
    refine WD.pP (tb := tb) rfl rfl rfl rfl (evP_index rfl rfl rfl rfl rfl rfl (by simp only [vcells, List.length_cons, List.length_nil, cellsI_len, cellsB_len, List.length_set, List.length_replicate, List.length_append, List.length_map, List.length_take, List.length_drop]; omega)) (by simp only [Nat.zero_add, Nat.add_zero, Nat.reduceAdd, Nat.reduceMul, Nat.add_assoc, Nat.mul_one]; exact rfl) ?_
    refine WD.fR (tb := tb) rfl rfl rfl rfl rfl (evR_load rfl rfl rfl rfl (cellsR_get0 hu0 rfl)) (mem_wf _ _) ?_
    refine WD.p (tb := tb) rfl rfl rfl rfl (evP_remV rfl rfl rfl (by assumption) (by omega)) ?_
    iterate 2 refine jw ?_
    refine jp ?_
    refine WD.pP (tb := tb) rfl rfl rfl rfl (evP_index rfl rfl rfl rfl rfl rfl (by simp only [vcells, List.length_cons, List.length_nil, cellsI_len, cellsB_len, List.length_set, List.length_replicate, List.length_append, List.length_map, List.length_take, List.length_drop]; omega)) (by simp only [Nat.zero_add, Nat.add_zero, Nat.reduceAdd, Nat.reduceMul, Nat.add_assoc, Nat.mul_one]; exact rfl) ?_
    refine WD.fR (tb := tb) rfl rfl rfl rfl rfl (evR_load rfl rfl rfl rfl (cellsR_get0 hu0 rfl)) (mem_wf _ _) ?_
    refine jp ?_
    refine WD.pP (tb := tb) rfl rfl rfl rfl (evP_index rfl rfl rfl rfl rfl rfl (by simp only [vcells, List.length_cons, List.length_nil, cellsI_len, cellsB_len, List.length_set, List.length_replicate, List.length_append, List.length_map, List.length_take, List.length_drop]; omega)) (by simp only [Nat.zero_add, Nat.add_zero, Nat.reduceAdd, Nat.reduceMul, Nat.add_assoc, Nat.mul_one]; exact rfl) ?_
    refine WD.fR (tb := tb) rfl rfl rfl rfl rfl (evR_load rfl rfl rfl rfl (cellsR_get0 hu1 rfl)) (mem_wf _ _) ?_
    refine jp ?_
    refine WD.pP (tb := tb) rfl rfl rfl rfl (evP_index rfl rfl rfl rfl rfl rfl (by simp only [vcells, List.length_cons, List.length_nil, cellsI_len, cellsB_len, List.length_set, List.length_replicate, List.length_append, List.length_map, List.length_take, List.length_drop]; omega)) (by simp only [Nat.zero_add, Nat.add_zero, Nat.reduceAdd, Nat.reduceMul, Nat.add_assoc, Nat.mul_one]; exact rfl) ?_
    refine WD.fR (tb := tb) rfl rfl rfl rfl rfl (evR_load rfl rfl rfl rfl (cellsR_get0 hu2 rfl)) (mem_wf _ _) ?_
    refine jp ?_
    refine WD.pP (tb := tb) rfl rfl rfl rfl (evP_index rfl rfl rfl rfl rfl rfl (by simp only [vcells, List.length_cons, List.length_nil, cellsI_len, cellsB_len, List.length_set, List.length_replicate, List.length_append, List.length_map, List.length_take, List.length_drop]; omega)) (by simp only [Nat.zero_add, Nat.add_zero, Nat.reduceAdd, Nat.reduceMul, Nat.add_assoc, Nat.mul_one]; exact rfl) ?_
    refine WD.fR (tb := tb) rfl rfl rfl rfl rfl (evR_load rfl rfl rfl rfl (cellsR_get0 hu3 rfl)) (mem_wf _ _) ?_
    refine jp ?_
    refine WD.pP (tb := tb) rfl rfl rfl rfl (evP_index rfl rfl rfl rfl rfl rfl (by simp only [vcells, List.length_cons, List.length_nil, cellsI_len, cellsB_len, List.length_set, List.length_replicate, List.length_append, List.length_map, List.length_take, List.length_drop]; omega)) (by simp only [Nat.zero_add, Nat.add_zero, Nat.reduceAdd, Nat.reduceMul, Nat.add_assoc, Nat.mul_one]; exact rfl) ?_
    refine WD.fR (tb := tb) rfl rfl rfl rfl rfl (evR_load rfl rfl rfl rfl (cellsR_get0 hu4 rfl)) (mem_wf _ _) ?_
    refine jp ?_
    refine WD.pP (tb := tb) rfl rfl rfl rfl (evP_index rfl rfl rfl rfl rfl rfl (by simp only [vcells, List.length_cons, List.length_nil, cellsI_len, cellsB_len, List.length_set, List.length_replicate, List.length_append, List.length_map, List.length_take, List.length_drop]; omega)) (by simp only [Nat.zero_add, Nat.add_zero, Nat.reduceAdd, Nat.reduceMul, Nat.add_assoc, Nat.mul_one]; exact rfl) ?_
    refine WD.fR (tb := tb) rfl rfl rfl rfl rfl (evR_load rfl rfl rfl rfl (cellsR_get0 hu5 rfl)) (mem_wf _ _) ?_
    refine jp ?_
    refine WD.fC (tb := tb) rfl rfl rfl rfl rfl (fun _ => rfl) rfl rfl (fun _ => rfl) (Grow.lists rfl) ?_
    refine WD.p (tb := tb) rfl rfl rfl rfl (evP_build rfl rfl (bd_full _ _ _ _ _ _ _ _)) ?_
    refine WD.e3 (tb := tb) rfl rfl rfl rfl rfl rfl ?_; rw [new_mem]; simp only [ll, vcells, mem_next, Nat.zero_add, Nat.zero_mul, Nat.reduceAdd, reps, setL, Nat.reduceMul]
    refine WD.e0 (tb := tb) rfl rfl rfl rfl rfl (evE_H (evH_store rfl rfl rfl rfl rfl (Nat.zero_le _) rfl (by simp [vcells]) (Nat.le_of_ble_eq_true rfl))) ?_; rw [upd_mem _ rfl]; simp only [vcells, List.set_cons_zero, List.set_cons_succ, (pg_res _ _ _ _ _ _ _ _), okL_b32, mapL_b32, pgV]; (try simp only [setL, List.set_cons_zero, List.set_cons_succ])
    refine WD.fin rfl ?_
    refine jq ?_
    refine WS.hasD 85 rfl ?_; refine WS.pdrawF (tb := tb) [] PY (by exact rfl) (by kernel_rfl) rfl (by kernel_rfl) (by kernel_rfl) (by (try simp only [mapL, mapV, ll]) <;> exact rfl) (by simp [okL, okV, okL_b32, mapL_b32, pgV]) rfl (by simp [embP, okL, okV, mapL, mapV, mem_next, mem_get, mem_ro, mapL_cellsR, okL_cellsR, okL_b32, mapL_b32, pgV]; fail_if_success exfalso) rfl (by first | trivial | simp [okV, okL]) (fun _ => ?_)
    refine jp ?_
    refine WD.pP (tb := tb) rfl rfl rfl rfl (evP_index rfl rfl rfl rfl rfl rfl (by simp only [vcells, List.length_cons, List.length_nil, cellsI_len, cellsB_len, List.length_set, List.length_replicate, List.length_append, List.length_map, List.length_take, List.length_drop]; omega)) (by simp only [Nat.zero_add, Nat.add_zero, Nat.reduceAdd, Nat.reduceMul, Nat.add_assoc, Nat.mul_one]; exact rfl) ?_
    refine WD.fR (tb := tb) rfl rfl rfl rfl rfl (evR_load rfl rfl rfl rfl (cellsR_get0 hw0 rfl)) (mem_wf _ _) ?_
    refine WD.p (tb := tb) rfl rfl rfl rfl (evP_remV rfl rfl rfl (by assumption) (by omega)) ?_
    iterate 2 refine jw ?_
    refine jp ?_
    refine WD.pP (tb := tb) rfl rfl rfl rfl (evP_index rfl rfl rfl rfl rfl rfl (by simp only [vcells, List.length_cons, List.length_nil, cellsI_len, cellsB_len, List.length_set, List.length_replicate, List.length_append, List.length_map, List.length_take, List.length_drop]; omega)) (by simp only [Nat.zero_add, Nat.add_zero, Nat.reduceAdd, Nat.reduceMul, Nat.add_assoc, Nat.mul_one]; exact rfl) ?_
    refine WD.fR (tb := tb) rfl rfl rfl rfl rfl (evR_load rfl rfl rfl rfl (cellsR_get0 hw0 rfl)) (mem_wf _ _) ?_
    refine jp ?_
    refine WD.pP (tb := tb) rfl rfl rfl rfl (evP_index rfl rfl rfl rfl rfl rfl (by simp only [vcells, List.length_cons, List.length_nil, cellsI_len, cellsB_len, List.length_set, List.length_replicate, List.length_append, List.length_map, List.length_take, List.length_drop]; omega)) (by simp only [Nat.zero_add, Nat.add_zero, Nat.reduceAdd, Nat.reduceMul, Nat.add_assoc, Nat.mul_one]; exact rfl) ?_
    refine WD.fR (tb := tb) rfl rfl rfl rfl rfl (evR_load rfl rfl rfl rfl (cellsR_get0 hw1 rfl)) (mem_wf _ _) ?_
    refine jp ?_
    refine WD.pP (tb := tb) rfl rfl rfl rfl (evP_index rfl rfl rfl rfl rfl rfl (by simp only [vcells, List.length_cons, List.length_nil, cellsI_len, cellsB_len, List.length_set, List.length_replicate, List.length_append, List.length_map, List.length_take, List.length_drop]; omega)) (by simp only [Nat.zero_add, Nat.add_zero, Nat.reduceAdd, Nat.reduceMul, Nat.add_assoc, Nat.mul_one]; exact rfl) ?_
    refine WD.fR (tb := tb) rfl rfl rfl rfl rfl (evR_load rfl rfl rfl rfl (cellsR_get0 hw2 rfl)) (mem_wf _ _) ?_
    refine jp ?_
    refine WD.pP (tb := tb) rfl rfl rfl rfl (evP_index rfl rfl rfl rfl rfl rfl (by simp only [vcells, List.length_cons, List.length_nil, cellsI_len, cellsB_len, List.length_set, List.length_replicate, List.length_append, List.length_map, List.length_take, List.length_drop]; omega)) (by simp only [Nat.zero_add, Nat.add_zero, Nat.reduceAdd, Nat.reduceMul, Nat.add_assoc, Nat.mul_one]; exact rfl) ?_
    refine WD.fR (tb := tb) rfl rfl rfl rfl rfl (evR_load rfl rfl rfl rfl (cellsR_get0 hw3 rfl)) (mem_wf _ _) ?_
    refine jp ?_
    refine WD.pP (tb := tb) rfl rfl rfl rfl (evP_index rfl rfl rfl rfl rfl rfl (by simp only [vcells, List.length_cons, List.length_nil, cellsI_len, cellsB_len, List.length_set, List.length_replicate, List.length_append, List.length_map, List.length_take, List.length_drop]; omega)) (by simp only [Nat.zero_add, Nat.add_zero, Nat.reduceAdd, Nat.reduceMul, Nat.add_assoc, Nat.mul_one]; exact rfl) ?_
    refine WD.fR (tb := tb) rfl rfl rfl rfl rfl (evR_load rfl rfl rfl rfl (cellsR_get0 hw4 rfl)) (mem_wf _ _) ?_
    refine jp ?_
    refine WD.pP (tb := tb) rfl rfl rfl rfl (evP_index rfl rfl rfl rfl rfl rfl (by simp only [vcells, List.length_cons, List.length_nil, cellsI_len, cellsB_len, List.length_set, List.length_replicate, List.length_append, List.length_map, List.length_take, List.length_drop]; omega)) (by simp only [Nat.zero_add, Nat.add_zero, Nat.reduceAdd, Nat.reduceMul, Nat.add_assoc, Nat.mul_one]; exact rfl) ?_
    refine WD.fR (tb := tb) rfl rfl rfl rfl rfl (evR_load rfl rfl rfl rfl (cellsR_get0 hw5 rfl)) (mem_wf _ _) ?_
    refine jp ?_
    refine WD.fC (tb := tb) rfl rfl rfl rfl rfl (fun _ => rfl) rfl rfl (fun _ => rfl) (Grow.lists rfl) ?_
    refine WD.p (tb := tb) rfl rfl rfl rfl (evP_build rfl rfl (bd_full _ _ _ _ _ _ _ _)) ?_
    refine WD.e3 (tb := tb) rfl rfl rfl rfl rfl rfl ?_; rw [new_mem]; simp only [ll, vcells, mem_next, Nat.zero_add, Nat.zero_mul, Nat.reduceAdd, reps, setL, Nat.reduceMul]
    refine WD.e0 (tb := tb) rfl rfl rfl rfl rfl (evE_H (evH_store rfl rfl rfl rfl rfl (Nat.zero_le _) rfl (by simp [vcells]) (Nat.le_of_ble_eq_true rfl))) ?_; rw [upd_mem _ rfl]; simp only [vcells, List.set_cons_zero, List.set_cons_succ, (pg_res _ _ _ _ _ _ _ _), okL_b32, mapL_b32, pgV]; (try simp only [setL, List.set_cons_zero, List.set_cons_succ])
    refine WD.fin rfl ?_
    refine jq ?_
    refine jg ?_
    refine WS.poA (tb := tb) rfl rfl rfl rfl rfl (by simp only [List.drop_zero, List.drop_succ_cons, List.take_succ_cons, List.take_zero, b32_take]; exact rfl) ?_
    refine jc [] EU (by simp [jOb, okL_b32, mapL_b32, pgV]) (by simp [jEb, jOb, jMb, mapL_cellsR, okL_cellsR, okL_b32, mapL_b32, pgV]) ?_; rintro _ _ ⟨rfl, rfl⟩ -; simp only [jPg, jMb, ll, Nat.reduceAdd, Nat.reduceLT, Nat.zero_add, if_true, if_false, Nat.reduceSub, reduceIte, mapL_cellsR, Nat.lt_irrefl, Nat.not_lt_zero, Nat.zero_lt_succ, Nat.lt_add_one, okL_b32, mapL_b32, pgV]
    iterate 5 refine jo ?_
    refine je ?_
    refine jq ?_
    refine jg ?_
    refine WS.poA (tb := tb) rfl rfl rfl rfl rfl (by simp only [List.drop_zero, List.drop_succ_cons, List.take_succ_cons, List.take_zero, b32_take]; exact rfl) ?_
    refine jc [] EW (by simp [jOb, okL_b32, mapL_b32, pgV]) (by simp [jEb, jOb, jMb, mapL_cellsR, okL_cellsR, okL_b32, mapL_b32, pgV]) ?_; rintro _ _ ⟨rfl, rfl⟩ -; simp only [jPg, jMb, ll, Nat.reduceAdd, Nat.reduceLT, Nat.zero_add, if_true, if_false, Nat.reduceSub, reduceIte, mapL_cellsR, Nat.lt_irrefl, Nat.not_lt_zero, Nat.zero_lt_succ, Nat.lt_add_one, okL_b32, mapL_b32, pgV]
    iterate 5 refine jo ?_
    refine je ?_
    iterate 2 refine jq ?_
    refine jg ?_
    refine jo ?_
    refine jB false ?_
    iterate 2 refine jo ?_
    refine jB false ?_
    iterate 4 refine jo ?_
    refine jB false ?_
    iterate 4 refine jo ?_
    refine jB false ?_
    refine jo ?_
    refine je ?_
    refine WS.pcondF rfl rfl ?_
    refine WS.pskip rfl ?_
    refine jq ?_
    refine jg ?_
    refine jo ?_
    refine jc [6] DCU (by simp [jOb, okL_b32, mapL_b32, pgV]) (by simp [jEb, jOb, jMb, mapL_cellsR, okL_cellsR, okL_b32, mapL_b32, pgV]) ?_; rintro _ _ ⟨rfl, rfl⟩ -; simp only [jPg, jMb, ll, Nat.reduceAdd, Nat.reduceLT, Nat.zero_add, if_true, if_false, Nat.reduceSub, reduceIte, mapL_cellsR, Nat.lt_irrefl, Nat.not_lt_zero, Nat.zero_lt_succ, Nat.lt_add_one, okL_b32, mapL_b32, pgV]
    iterate 3 refine jo ?_
    refine jn ?_
    refine WS.po0 (tb := tb) rfl rfl rfl rfl (step_H rfl rfl (evH_store rfl rfl rfl rfl rfl (Nat.zero_le _) rfl (by simp [vcells]) (Nat.le_of_ble_eq_true rfl))) ?_; rw [upd_mem _ rfl]; simp only [vcells, List.set_cons_zero, List.set_cons_succ, (pg_res _ _ _ _ _ _ _ _), okL_b32, mapL_b32, pgV]; (try simp only [setL, List.set_cons_zero, List.set_cons_succ])
    refine jo ?_
    refine je ?_
    refine jq ?_
    refine jg ?_
    refine jo ?_
    refine jc [7] DCW (by simp [jOb, okL_b32, mapL_b32, pgV]) (by simp [jEb, jOb, jMb, mapL_cellsR, okL_cellsR, okL_b32, mapL_b32, pgV]) ?_; rintro _ _ ⟨rfl, rfl⟩ -; simp only [jPg, jMb, ll, Nat.reduceAdd, Nat.reduceLT, Nat.zero_add, if_true, if_false, Nat.reduceSub, reduceIte, mapL_cellsR, Nat.lt_irrefl, Nat.not_lt_zero, Nat.zero_lt_succ, Nat.lt_add_one, okL_b32, mapL_b32, pgV]
    iterate 3 refine jo ?_
    refine jn ?_
    refine WS.po0 (tb := tb) rfl rfl rfl rfl (step_H rfl rfl (evH_store rfl rfl rfl rfl rfl (Nat.zero_le _) rfl (by simp [vcells]) (Nat.le_of_ble_eq_true rfl))) ?_; rw [upd_mem _ rfl]; simp only [vcells, List.set_cons_zero, List.set_cons_succ, (pg_res _ _ _ _ _ _ _ _), okL_b32, mapL_b32, pgV]; (try simp only [setL, List.set_cons_zero, List.set_cons_succ])
    refine jo ?_
    refine je ?_
    refine jq ?_
    refine WS.pdrawX (tb := tb) (by kernel_rfl) rfl (by kernel_rfl) ?_; (try refine WZ.keep (l := 2) rfl ?_); (try refine WZ.keep (l := 3) rfl ?_)
    refine WZ.p (tb := tb) rfl rfl rfl rfl rfl ?_
    refine WZ.pB (tb := tb) true rfl rfl rfl rfl rfl rfl ?_
    refine WZ.p (tb := tb) rfl rfl rfl rfl rfl ?_
    refine WZ.p (tb := tb) rfl rfl rfl rfl rfl ?_
    refine WZ.pB (tb := tb) true rfl rfl rfl rfl rfl rfl ?_
    refine WZ.p (tb := tb) rfl rfl rfl rfl rfl ?_
    refine WZ.p (tb := tb) rfl rfl rfl rfl rfl ?_
    refine WZ.p (tb := tb) rfl rfl rfl rfl rfl ?_
    refine WZ.r (tb := tb) rfl rfl rfl rfl (⟨rfl, evR_str rfl rfl rfl rfl rfl (cellsAt_rowG (R := rwI .u8) rfl (by simp only [rwI]; omega)) (by first | exact rfl | (simp only [vcells, List.length_cons, List.length_nil, cellsI_len, cellsB_len, List.length_set, List.length_replicate, List.length_append, List.length_map, List.length_take, List.length_drop] <;> omega) | omega)⟩) ?_
    refine WZ.p (tb := tb) rfl rfl rfl rfl rfl ?_
    refine WZ.r (tb := tb) rfl rfl rfl rfl (⟨rfl, evR_str rfl rfl rfl rfl rfl (cellsAt_rowG (R := rwI .u8) rfl (by simp only [rwI]; omega)) (by first | exact rfl | (simp only [vcells, List.length_cons, List.length_nil, cellsI_len, cellsB_len, List.length_set, List.length_replicate, List.length_append, List.length_map, List.length_take, List.length_drop] <;> omega) | omega)⟩) ?_
    refine WZ.pB (tb := tb) true rfl rfl rfl rfl rfl (by assumption) ?_
    refine WZ.rA (tb := tb) rfl rfl rfl rfl ⟨rfl, rfl⟩ (by simp only [List.drop_zero, List.drop_succ_cons, List.take_succ_cons, List.take_zero, b32_take]; exact rfl) ?_
    refine WZ.rA (tb := tb) rfl rfl rfl rfl ⟨rfl, rfl⟩ (by simp only [List.drop_zero, List.drop_succ_cons, List.take_succ_cons, List.take_zero, b32_take]; exact rfl) ?_
    refine WZ.pB (tb := tb) true rfl rfl rfl rfl (evP_eql rfl rfl rfl (by kernel_rfl) (by kernel_rfl)) (by rw [PageC_eq]; exact d_t (by omega)) ?_
    refine WZ.pB (tb := tb) true rfl rfl rfl rfl rfl rfl ?_
    refine WZ.p (tb := tb) rfl rfl rfl rfl rfl ?_
    refine WZ.p (tb := tb) rfl rfl rfl rfl rfl ?_
    refine WZ.rA (tb := tb) rfl rfl rfl rfl ⟨rfl, rfl⟩ (by simp only [List.drop_zero, List.drop_succ_cons, List.take_succ_cons, List.take_zero, b32_take]; exact rfl) ?_
    refine WZ.rA (tb := tb) rfl rfl rfl rfl ⟨rfl, rfl⟩ (by simp only [List.drop_zero, List.drop_succ_cons, List.take_succ_cons, List.take_zero, b32_take]; exact rfl) ?_
    refine WZ.pB (tb := tb) true rfl rfl rfl rfl (evP_eql rfl rfl rfl (by kernel_rfl) (by kernel_rfl)) (by rw [PageC_eq]; exact d_t (by omega)) ?_
    refine WZ.rA (tb := tb) rfl rfl rfl rfl ⟨rfl, rfl⟩ (by simp only [List.drop_zero, List.drop_succ_cons, List.take_succ_cons, List.take_zero, b32_take]; exact rfl) ?_
    refine WZ.rA (tb := tb) rfl rfl rfl rfl ⟨rfl, rfl⟩ (by simp only [List.drop_zero, List.drop_succ_cons, List.take_succ_cons, List.take_zero, b32_take]; exact rfl) ?_
    refine WZ.pB (tb := tb) true rfl rfl rfl rfl (evP_eql rfl rfl rfl (by kernel_rfl) (by kernel_rfl)) (by rw [PageC_eq]; exact d_t (by omega)) ?_
    refine WZ.pB (tb := tb) true rfl rfl rfl rfl rfl rfl ?_
    refine WZ.p (tb := tb) rfl rfl rfl rfl rfl ?_
    refine WZ.p (tb := tb) rfl rfl rfl rfl rfl ?_
    refine WZ.fin rfl (by kernel_rfl) (by repeat (first | exact trivial | refine ⟨rfl, ?_⟩)) ?_
    refine WS.pret rfl ⟨.inr rfl, _, rfl, ?_⟩
    exact ⟨_, rfl, rfl⟩
  · have hs : ((strOf U).toList == (strOf W).toList) = false := by
      have : ¬ (strOf U).toList = (strOf W).toList := fun e => hE (hEq3 (hEq (strOf_inj bU bW e)))
      simpa using this
    clear hEq hEq2 hEq3
    refine WS.hasD 58 rfl ?_; refine WS.pdrawF (tb := tb) [] PX (by exact rfl) (by kernel_rfl) rfl (by kernel_rfl) (by kernel_rfl) (by (try simp only [mapL, mapV, ll]) <;> exact rfl) (by simp [okL, okV, okL_b32, mapL_b32, pgV]) rfl (by simp [embP, okL, okV, mapL, mapV, mem_next, mem_get, mem_ro, mapL_cellsR, okL_cellsR, okL_b32, mapL_b32, pgV]; fail_if_success exfalso) rfl (by first | trivial | simp [okV, okL]) (fun _ => ?_)
    refine jp ?_
    refine WD.pP (tb := tb) rfl rfl rfl rfl (evP_index rfl rfl rfl rfl rfl rfl (by simp only [vcells, List.length_cons, List.length_nil, cellsI_len, cellsB_len, List.length_set, List.length_replicate, List.length_append, List.length_map, List.length_take, List.length_drop]; omega)) (by simp only [Nat.zero_add, Nat.add_zero, Nat.reduceAdd, Nat.reduceMul, Nat.add_assoc, Nat.mul_one]; exact rfl) ?_
    refine WD.fR (tb := tb) rfl rfl rfl rfl rfl (evR_load rfl rfl rfl rfl (cellsR_get0 hu0 rfl)) (mem_wf _ _) ?_
    refine WD.p (tb := tb) rfl rfl rfl rfl (evP_remV rfl rfl rfl (by assumption) (by omega)) ?_
    iterate 2 refine jw ?_
    refine jp ?_
    refine WD.pP (tb := tb) rfl rfl rfl rfl (evP_index rfl rfl rfl rfl rfl rfl (by simp only [vcells, List.length_cons, List.length_nil, cellsI_len, cellsB_len, List.length_set, List.length_replicate, List.length_append, List.length_map, List.length_take, List.length_drop]; omega)) (by simp only [Nat.zero_add, Nat.add_zero, Nat.reduceAdd, Nat.reduceMul, Nat.add_assoc, Nat.mul_one]; exact rfl) ?_
    refine WD.fR (tb := tb) rfl rfl rfl rfl rfl (evR_load rfl rfl rfl rfl (cellsR_get0 hu0 rfl)) (mem_wf _ _) ?_
    refine jp ?_
    refine WD.pP (tb := tb) rfl rfl rfl rfl (evP_index rfl rfl rfl rfl rfl rfl (by simp only [vcells, List.length_cons, List.length_nil, cellsI_len, cellsB_len, List.length_set, List.length_replicate, List.length_append, List.length_map, List.length_take, List.length_drop]; omega)) (by simp only [Nat.zero_add, Nat.add_zero, Nat.reduceAdd, Nat.reduceMul, Nat.add_assoc, Nat.mul_one]; exact rfl) ?_
    refine WD.fR (tb := tb) rfl rfl rfl rfl rfl (evR_load rfl rfl rfl rfl (cellsR_get0 hu1 rfl)) (mem_wf _ _) ?_
    refine jp ?_
    refine WD.pP (tb := tb) rfl rfl rfl rfl (evP_index rfl rfl rfl rfl rfl rfl (by simp only [vcells, List.length_cons, List.length_nil, cellsI_len, cellsB_len, List.length_set, List.length_replicate, List.length_append, List.length_map, List.length_take, List.length_drop]; omega)) (by simp only [Nat.zero_add, Nat.add_zero, Nat.reduceAdd, Nat.reduceMul, Nat.add_assoc, Nat.mul_one]; exact rfl) ?_
    refine WD.fR (tb := tb) rfl rfl rfl rfl rfl (evR_load rfl rfl rfl rfl (cellsR_get0 hu2 rfl)) (mem_wf _ _) ?_
    refine jp ?_
    refine WD.pP (tb := tb) rfl rfl rfl rfl (evP_index rfl rfl rfl rfl rfl rfl (by simp only [vcells, List.length_cons, List.length_nil, cellsI_len, cellsB_len, List.length_set, List.length_replicate, List.length_append, List.length_map, List.length_take, List.length_drop]; omega)) (by simp only [Nat.zero_add, Nat.add_zero, Nat.reduceAdd, Nat.reduceMul, Nat.add_assoc, Nat.mul_one]; exact rfl) ?_
    refine WD.fR (tb := tb) rfl rfl rfl rfl rfl (evR_load rfl rfl rfl rfl (cellsR_get0 hu3 rfl)) (mem_wf _ _) ?_
    refine jp ?_
    refine WD.pP (tb := tb) rfl rfl rfl rfl (evP_index rfl rfl rfl rfl rfl rfl (by simp only [vcells, List.length_cons, List.length_nil, cellsI_len, cellsB_len, List.length_set, List.length_replicate, List.length_append, List.length_map, List.length_take, List.length_drop]; omega)) (by simp only [Nat.zero_add, Nat.add_zero, Nat.reduceAdd, Nat.reduceMul, Nat.add_assoc, Nat.mul_one]; exact rfl) ?_
    refine WD.fR (tb := tb) rfl rfl rfl rfl rfl (evR_load rfl rfl rfl rfl (cellsR_get0 hu4 rfl)) (mem_wf _ _) ?_
    refine jp ?_
    refine WD.pP (tb := tb) rfl rfl rfl rfl (evP_index rfl rfl rfl rfl rfl rfl (by simp only [vcells, List.length_cons, List.length_nil, cellsI_len, cellsB_len, List.length_set, List.length_replicate, List.length_append, List.length_map, List.length_take, List.length_drop]; omega)) (by simp only [Nat.zero_add, Nat.add_zero, Nat.reduceAdd, Nat.reduceMul, Nat.add_assoc, Nat.mul_one]; exact rfl) ?_
    refine WD.fR (tb := tb) rfl rfl rfl rfl rfl (evR_load rfl rfl rfl rfl (cellsR_get0 hu5 rfl)) (mem_wf _ _) ?_
    refine jp ?_
    refine WD.fC (tb := tb) rfl rfl rfl rfl rfl (fun _ => rfl) rfl rfl (fun _ => rfl) (Grow.lists rfl) ?_
    refine WD.p (tb := tb) rfl rfl rfl rfl (evP_build rfl rfl (bd_full _ _ _ _ _ _ _ _)) ?_
    refine WD.e3 (tb := tb) rfl rfl rfl rfl rfl rfl ?_; rw [new_mem]; simp only [ll, vcells, mem_next, Nat.zero_add, Nat.zero_mul, Nat.reduceAdd, reps, setL, Nat.reduceMul]
    refine WD.e0 (tb := tb) rfl rfl rfl rfl rfl (evE_H (evH_store rfl rfl rfl rfl rfl (Nat.zero_le _) rfl (by simp [vcells]) (Nat.le_of_ble_eq_true rfl))) ?_; rw [upd_mem _ rfl]; simp only [vcells, List.set_cons_zero, List.set_cons_succ, (pg_res _ _ _ _ _ _ _ _), okL_b32, mapL_b32, pgV]; (try simp only [setL, List.set_cons_zero, List.set_cons_succ])
    refine WD.fin rfl ?_
    refine jq ?_
    refine WS.hasD 85 rfl ?_; refine WS.pdrawF (tb := tb) [] PY (by exact rfl) (by kernel_rfl) rfl (by kernel_rfl) (by kernel_rfl) (by (try simp only [mapL, mapV, ll]) <;> exact rfl) (by simp [okL, okV, okL_b32, mapL_b32, pgV]) rfl (by simp [embP, okL, okV, mapL, mapV, mem_next, mem_get, mem_ro, mapL_cellsR, okL_cellsR, okL_b32, mapL_b32, pgV]; fail_if_success exfalso) rfl (by first | trivial | simp [okV, okL]) (fun _ => ?_)
    refine jp ?_
    refine WD.pP (tb := tb) rfl rfl rfl rfl (evP_index rfl rfl rfl rfl rfl rfl (by simp only [vcells, List.length_cons, List.length_nil, cellsI_len, cellsB_len, List.length_set, List.length_replicate, List.length_append, List.length_map, List.length_take, List.length_drop]; omega)) (by simp only [Nat.zero_add, Nat.add_zero, Nat.reduceAdd, Nat.reduceMul, Nat.add_assoc, Nat.mul_one]; exact rfl) ?_
    refine WD.fR (tb := tb) rfl rfl rfl rfl rfl (evR_load rfl rfl rfl rfl (cellsR_get0 hw0 rfl)) (mem_wf _ _) ?_
    refine WD.p (tb := tb) rfl rfl rfl rfl (evP_remV rfl rfl rfl (by assumption) (by omega)) ?_
    iterate 2 refine jw ?_
    refine jp ?_
    refine WD.pP (tb := tb) rfl rfl rfl rfl (evP_index rfl rfl rfl rfl rfl rfl (by simp only [vcells, List.length_cons, List.length_nil, cellsI_len, cellsB_len, List.length_set, List.length_replicate, List.length_append, List.length_map, List.length_take, List.length_drop]; omega)) (by simp only [Nat.zero_add, Nat.add_zero, Nat.reduceAdd, Nat.reduceMul, Nat.add_assoc, Nat.mul_one]; exact rfl) ?_
    refine WD.fR (tb := tb) rfl rfl rfl rfl rfl (evR_load rfl rfl rfl rfl (cellsR_get0 hw0 rfl)) (mem_wf _ _) ?_
    refine jp ?_
    refine WD.pP (tb := tb) rfl rfl rfl rfl (evP_index rfl rfl rfl rfl rfl rfl (by simp only [vcells, List.length_cons, List.length_nil, cellsI_len, cellsB_len, List.length_set, List.length_replicate, List.length_append, List.length_map, List.length_take, List.length_drop]; omega)) (by simp only [Nat.zero_add, Nat.add_zero, Nat.reduceAdd, Nat.reduceMul, Nat.add_assoc, Nat.mul_one]; exact rfl) ?_
    refine WD.fR (tb := tb) rfl rfl rfl rfl rfl (evR_load rfl rfl rfl rfl (cellsR_get0 hw1 rfl)) (mem_wf _ _) ?_
    refine jp ?_
    refine WD.pP (tb := tb) rfl rfl rfl rfl (evP_index rfl rfl rfl rfl rfl rfl (by simp only [vcells, List.length_cons, List.length_nil, cellsI_len, cellsB_len, List.length_set, List.length_replicate, List.length_append, List.length_map, List.length_take, List.length_drop]; omega)) (by simp only [Nat.zero_add, Nat.add_zero, Nat.reduceAdd, Nat.reduceMul, Nat.add_assoc, Nat.mul_one]; exact rfl) ?_
    refine WD.fR (tb := tb) rfl rfl rfl rfl rfl (evR_load rfl rfl rfl rfl (cellsR_get0 hw2 rfl)) (mem_wf _ _) ?_
    refine jp ?_
    refine WD.pP (tb := tb) rfl rfl rfl rfl (evP_index rfl rfl rfl rfl rfl rfl (by simp only [vcells, List.length_cons, List.length_nil, cellsI_len, cellsB_len, List.length_set, List.length_replicate, List.length_append, List.length_map, List.length_take, List.length_drop]; omega)) (by simp only [Nat.zero_add, Nat.add_zero, Nat.reduceAdd, Nat.reduceMul, Nat.add_assoc, Nat.mul_one]; exact rfl) ?_
    refine WD.fR (tb := tb) rfl rfl rfl rfl rfl (evR_load rfl rfl rfl rfl (cellsR_get0 hw3 rfl)) (mem_wf _ _) ?_
    refine jp ?_
    refine WD.pP (tb := tb) rfl rfl rfl rfl (evP_index rfl rfl rfl rfl rfl rfl (by simp only [vcells, List.length_cons, List.length_nil, cellsI_len, cellsB_len, List.length_set, List.length_replicate, List.length_append, List.length_map, List.length_take, List.length_drop]; omega)) (by simp only [Nat.zero_add, Nat.add_zero, Nat.reduceAdd, Nat.reduceMul, Nat.add_assoc, Nat.mul_one]; exact rfl) ?_
    refine WD.fR (tb := tb) rfl rfl rfl rfl rfl (evR_load rfl rfl rfl rfl (cellsR_get0 hw4 rfl)) (mem_wf _ _) ?_
    refine jp ?_
    refine WD.pP (tb := tb) rfl rfl rfl rfl (evP_index rfl rfl rfl rfl rfl rfl (by simp only [vcells, List.length_cons, List.length_nil, cellsI_len, cellsB_len, List.length_set, List.length_replicate, List.length_append, List.length_map, List.length_take, List.length_drop]; omega)) (by simp only [Nat.zero_add, Nat.add_zero, Nat.reduceAdd, Nat.reduceMul, Nat.add_assoc, Nat.mul_one]; exact rfl) ?_
    refine WD.fR (tb := tb) rfl rfl rfl rfl rfl (evR_load rfl rfl rfl rfl (cellsR_get0 hw5 rfl)) (mem_wf _ _) ?_
    refine jp ?_
    refine WD.fC (tb := tb) rfl rfl rfl rfl rfl (fun _ => rfl) rfl rfl (fun _ => rfl) (Grow.lists rfl) ?_
    refine WD.p (tb := tb) rfl rfl rfl rfl (evP_build rfl rfl (bd_full _ _ _ _ _ _ _ _)) ?_
    refine WD.e3 (tb := tb) rfl rfl rfl rfl rfl rfl ?_; rw [new_mem]; simp only [ll, vcells, mem_next, Nat.zero_add, Nat.zero_mul, Nat.reduceAdd, reps, setL, Nat.reduceMul]
    refine WD.e0 (tb := tb) rfl rfl rfl rfl rfl (evE_H (evH_store rfl rfl rfl rfl rfl (Nat.zero_le _) rfl (by simp [vcells]) (Nat.le_of_ble_eq_true rfl))) ?_; rw [upd_mem _ rfl]; simp only [vcells, List.set_cons_zero, List.set_cons_succ, (pg_res _ _ _ _ _ _ _ _), okL_b32, mapL_b32, pgV]; (try simp only [setL, List.set_cons_zero, List.set_cons_succ])
    refine WD.fin rfl ?_
    refine jq ?_
    refine jg ?_
    refine WS.poA (tb := tb) rfl rfl rfl rfl rfl (by simp only [List.drop_zero, List.drop_succ_cons, List.take_succ_cons, List.take_zero, b32_take]; exact rfl) ?_
    refine jc [] EU (by simp [jOb, okL_b32, mapL_b32, pgV]) (by simp [jEb, jOb, jMb, mapL_cellsR, okL_cellsR, okL_b32, mapL_b32, pgV]) ?_; rintro _ _ ⟨rfl, rfl⟩ -; simp only [jPg, jMb, ll, Nat.reduceAdd, Nat.reduceLT, Nat.zero_add, if_true, if_false, Nat.reduceSub, reduceIte, mapL_cellsR, Nat.lt_irrefl, Nat.not_lt_zero, Nat.zero_lt_succ, Nat.lt_add_one, okL_b32, mapL_b32, pgV]
    iterate 5 refine jo ?_
    refine je ?_
    refine jq ?_
    refine jg ?_
    refine WS.poA (tb := tb) rfl rfl rfl rfl rfl (by simp only [List.drop_zero, List.drop_succ_cons, List.take_succ_cons, List.take_zero, b32_take]; exact rfl) ?_
    refine jc [] EW (by simp [jOb, okL_b32, mapL_b32, pgV]) (by simp [jEb, jOb, jMb, mapL_cellsR, okL_cellsR, okL_b32, mapL_b32, pgV]) ?_; rintro _ _ ⟨rfl, rfl⟩ -; simp only [jPg, jMb, ll, Nat.reduceAdd, Nat.reduceLT, Nat.zero_add, if_true, if_false, Nat.reduceSub, reduceIte, mapL_cellsR, Nat.lt_irrefl, Nat.not_lt_zero, Nat.zero_lt_succ, Nat.lt_add_one, okL_b32, mapL_b32, pgV]
    iterate 5 refine jo ?_
    refine je ?_
    iterate 2 refine jq ?_
    refine jg ?_
    refine jo ?_
    refine jB false ?_
    iterate 2 refine jo ?_
    refine jB false ?_
    iterate 4 refine jo ?_
    refine jB false ?_
    iterate 4 refine jo ?_
    refine jB false ?_
    refine jo ?_
    refine je ?_
    refine WS.pcondF rfl rfl ?_
    refine WS.pskip rfl ?_
    refine jq ?_
    refine jg ?_
    refine jo ?_
    refine jc [6] DCU (by simp [jOb, okL_b32, mapL_b32, pgV]) (by simp [jEb, jOb, jMb, mapL_cellsR, okL_cellsR, okL_b32, mapL_b32, pgV]) ?_; rintro _ _ ⟨rfl, rfl⟩ -; simp only [jPg, jMb, ll, Nat.reduceAdd, Nat.reduceLT, Nat.zero_add, if_true, if_false, Nat.reduceSub, reduceIte, mapL_cellsR, Nat.lt_irrefl, Nat.not_lt_zero, Nat.zero_lt_succ, Nat.lt_add_one, okL_b32, mapL_b32, pgV]
    iterate 3 refine jo ?_
    refine jn ?_
    refine WS.po0 (tb := tb) rfl rfl rfl rfl (step_H rfl rfl (evH_store rfl rfl rfl rfl rfl (Nat.zero_le _) rfl (by simp [vcells]) (Nat.le_of_ble_eq_true rfl))) ?_; rw [upd_mem _ rfl]; simp only [vcells, List.set_cons_zero, List.set_cons_succ, (pg_res _ _ _ _ _ _ _ _), okL_b32, mapL_b32, pgV]; (try simp only [setL, List.set_cons_zero, List.set_cons_succ])
    refine jo ?_
    refine je ?_
    refine jq ?_
    refine jg ?_
    refine jo ?_
    refine jc [7] DCW (by simp [jOb, okL_b32, mapL_b32, pgV]) (by simp [jEb, jOb, jMb, mapL_cellsR, okL_cellsR, okL_b32, mapL_b32, pgV]) ?_; rintro _ _ ⟨rfl, rfl⟩ -; simp only [jPg, jMb, ll, Nat.reduceAdd, Nat.reduceLT, Nat.zero_add, if_true, if_false, Nat.reduceSub, reduceIte, mapL_cellsR, Nat.lt_irrefl, Nat.not_lt_zero, Nat.zero_lt_succ, Nat.lt_add_one, okL_b32, mapL_b32, pgV]
    iterate 3 refine jo ?_
    refine jn ?_
    refine WS.po0 (tb := tb) rfl rfl rfl rfl (step_H rfl rfl (evH_store rfl rfl rfl rfl rfl (Nat.zero_le _) rfl (by simp [vcells]) (Nat.le_of_ble_eq_true rfl))) ?_; rw [upd_mem _ rfl]; simp only [vcells, List.set_cons_zero, List.set_cons_succ, (pg_res _ _ _ _ _ _ _ _), okL_b32, mapL_b32, pgV]; (try simp only [setL, List.set_cons_zero, List.set_cons_succ])
    refine jo ?_
    refine je ?_
    refine jq ?_
    refine WS.pdrawX (tb := tb) (by kernel_rfl) rfl (by kernel_rfl) ?_; (try refine WZ.keep (l := 2) rfl ?_); (try refine WZ.keep (l := 3) rfl ?_)
    refine WZ.p (tb := tb) rfl rfl rfl rfl rfl ?_
    refine WZ.pB (tb := tb) true rfl rfl rfl rfl rfl rfl ?_
    refine WZ.p (tb := tb) rfl rfl rfl rfl rfl ?_
    refine WZ.p (tb := tb) rfl rfl rfl rfl rfl ?_
    refine WZ.pB (tb := tb) true rfl rfl rfl rfl rfl rfl ?_
    refine WZ.p (tb := tb) rfl rfl rfl rfl rfl ?_
    refine WZ.p (tb := tb) rfl rfl rfl rfl rfl ?_
    refine WZ.p (tb := tb) rfl rfl rfl rfl rfl ?_
    refine WZ.r (tb := tb) rfl rfl rfl rfl (⟨rfl, evR_str rfl rfl rfl rfl rfl (cellsAt_rowG (R := rwI .u8) rfl (by simp only [rwI]; omega)) (by first | exact rfl | (simp only [vcells, List.length_cons, List.length_nil, cellsI_len, cellsB_len, List.length_set, List.length_replicate, List.length_append, List.length_map, List.length_take, List.length_drop] <;> omega) | omega)⟩) ?_
    refine WZ.p (tb := tb) rfl rfl rfl rfl rfl ?_
    refine WZ.r (tb := tb) rfl rfl rfl rfl (⟨rfl, evR_str rfl rfl rfl rfl rfl (cellsAt_rowG (R := rwI .u8) rfl (by simp only [rwI]; omega)) (by first | exact rfl | (simp only [vcells, List.length_cons, List.length_nil, cellsI_len, cellsB_len, List.length_set, List.length_replicate, List.length_append, List.length_map, List.length_take, List.length_drop] <;> omega) | omega)⟩) ?_
    refine WZ.pB (tb := tb) false rfl rfl rfl rfl rfl (by assumption) ?_
    refine WZ.rA (tb := tb) rfl rfl rfl rfl ⟨rfl, rfl⟩ (by simp only [List.drop_zero, List.drop_succ_cons, List.take_succ_cons, List.take_zero, b32_take]; exact rfl) ?_
    refine WZ.rA (tb := tb) rfl rfl rfl rfl ⟨rfl, rfl⟩ (by simp only [List.drop_zero, List.drop_succ_cons, List.take_succ_cons, List.take_zero, b32_take]; exact rfl) ?_
    refine WZ.pB (tb := tb) false rfl rfl rfl rfl (evP_eql rfl rfl rfl (by kernel_rfl) (by kernel_rfl)) (by rw [PageC_eq]; exact d_f (by omega)) ?_
    refine WZ.pB (tb := tb) true rfl rfl rfl rfl rfl rfl ?_
    refine WZ.p (tb := tb) rfl rfl rfl rfl rfl ?_
    refine WZ.p (tb := tb) rfl rfl rfl rfl rfl ?_
    refine WZ.rA (tb := tb) rfl rfl rfl rfl ⟨rfl, rfl⟩ (by simp only [List.drop_zero, List.drop_succ_cons, List.take_succ_cons, List.take_zero, b32_take]; exact rfl) ?_
    refine WZ.rA (tb := tb) rfl rfl rfl rfl ⟨rfl, rfl⟩ (by simp only [List.drop_zero, List.drop_succ_cons, List.take_succ_cons, List.take_zero, b32_take]; exact rfl) ?_
    refine WZ.pB (tb := tb) false rfl rfl rfl rfl (evP_eql rfl rfl rfl (by kernel_rfl) (by kernel_rfl)) (by rw [PageC_eq]; exact d_f (by omega)) ?_
    refine WZ.rA (tb := tb) rfl rfl rfl rfl ⟨rfl, rfl⟩ (by simp only [List.drop_zero, List.drop_succ_cons, List.take_succ_cons, List.take_zero, b32_take]; exact rfl) ?_
    refine WZ.rA (tb := tb) rfl rfl rfl rfl ⟨rfl, rfl⟩ (by simp only [List.drop_zero, List.drop_succ_cons, List.take_succ_cons, List.take_zero, b32_take]; exact rfl) ?_
    refine WZ.pB (tb := tb) false rfl rfl rfl rfl (evP_eql rfl rfl rfl (by kernel_rfl) (by kernel_rfl)) (by rw [PageC_eq]; exact d_f (by omega)) ?_
    refine WZ.pB (tb := tb) true rfl rfl rfl rfl rfl rfl ?_
    refine WZ.p (tb := tb) rfl rfl rfl rfl rfl ?_
    refine WZ.p (tb := tb) rfl rfl rfl rfl rfl ?_
    refine WZ.fin rfl (by kernel_rfl) (by repeat (first | exact trivial | refine ⟨rfl, ?_⟩)) ?_
    refine WS.pret rfl ⟨.inr rfl, _, rfl, ?_⟩
    exact ⟨_, rfl, rfl⟩
end Go.Proofs.Ytnogdgdkeojlpaa.Am

