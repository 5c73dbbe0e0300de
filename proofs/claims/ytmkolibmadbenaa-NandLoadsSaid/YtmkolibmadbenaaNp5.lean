/- Functions of the flash, walked. Conditions: those of each theorem. -/
import Derived.Test.YtmkolibmadbenaaAm5
import Derived.Test.YtmkolibmadbenaaNp4
namespace Go.Proofs.Ytmkolibmadbenaa.Am
open Go.Proofs
set_option maxRecDepth 1000000
set_option maxHeartbeats 4000000
set_option linter.unusedSimpArgs false
set_option linter.unusedVariables false
/-- What stays from call to call. -/
structure Kep (x x' : NS) : Prop where
  p : x'.p = x.p
  bs : x'.bs.length = x.bs.length
  len : x'.bk.length = x.bk.length
theorem nok_of {x x' : NS} {np : Nat} (H : NOk x np) (K : Kep x x') (nx : ∀ y ∈ x'.bk, 0 ≤ y.next ∧ y.next ≤ x.p) (wr : ∀ y ∈ x'.bk, 0 ≤ y.wear ∧ y.wear ≤ x'.er) (c1 : -1 ≤ x'.cut) (c2 : x'.cut ≤ 9223372036854775807) (f1 : -1 ≤ x'.fail) (f2 : x'.fail ≤ 9223372036854775807)
    (r1 : 0 ≤ x'.rd) (r2 : x'.rd ≤ 1000) (p1 : 0 ≤ x'.pr) (p2 : x'.pr ≤ 1000) (e1 : 0 ≤ x'.er) (e2 : x'.er ≤ 1000) : NOk x' np :=
  ⟨by rw [K.len, K.p]; exact H.hp, H.np1, H.np2, by rw [K.len]; exact H.bk1, by rw [K.len]; exact H.bk2, by rw [K.p]; exact H.p1, by rw [K.p]; exact H.p2, by rw [K.bs]; exact H.bs, by rw [K.p]; exact nx, wr, c1, c2, f1, f2, r1, p1, e1, r2, p2, e2⟩
theorem mem_set_or {α : Type} {l : List α} {i : Nat} {z y : α} (h : y ∈ l.set i z) : y ∈ l ∨ y = z := List.mem_or_eq_of_mem_set h
theorem cutK_b {c : Int} {k : Nat} (h1 : -1 ≤ c) (h2 : c ≤ 9223372036854775807) (hk : c < 0 ∨ (k : Int) ≤ c) : -1 ≤ cutK c k ∧ cutK c k ≤ 9223372036854775807 := by
  unfold cutK; split <;> omega
theorem prS_ok {x : NS} {np page b r : Nat} {D : List Int} {y : Bk} (H : NOk x np) (hy : x.bk[b]? = some y) (hr : r < x.p) (hpg : page < np) (hpr : x.pr + 1 ≤ 1000) : NOk (prS x page b r D y) np ∧ Kep x (prS x page b r D y) ∧ (prS x page b r D y).rd = x.rd ∧ (prS x page b r D y).pr = x.pr + 1 ∧ (prS x page b r D y).er = x.er := by
  have hm : prM x ≤ 17 := by unfold prM; split <;> omega
  have hyw := H.wr y (List.mem_of_getElem? hy)
  have hnxk : ∀ k, ∀ y' ∈ bkK x.bk b y r k, (0 ≤ y'.next ∧ y'.next ≤ x.p) ∧ 0 ≤ y'.wear ∧ y'.wear ≤ x.er := fun k y' hy' => by
    unfold bkK at hy'
    split at hy'
    · exact ⟨H.nx y' hy', H.wr y' hy'⟩
    · rcases mem_set_or hy' with h | rfl
      · exact ⟨H.nx y' h, H.wr y' h⟩
      · exact ⟨by simp only; omega, hyw⟩
  have hbs := H.bs
  have hbl : ∀ k, k ≤ 17 → (bsK x.bs D page k).length = x.bs.length := fun k hk => bsK_len (by omega) hk
  obtain ⟨b1, b2, b3, b4, b5, b6, b7, b8, b9, b10⟩ := bgS_keep { x with pr := x.pr + 1 }
  simp only at b1 b2 b3 b4 b5 b6 b7 b8 b9 b10
  have hx : prX x = bgS { x with pr := x.pr + 1 } := rfl
  have f1 := H.fail1
  have f2 := H.fail2
  have r1 := H.rd1
  have r2 := H.rd2
  have p1 := H.pr1
  have e1 := H.er1
  have e2 := H.er2
  unfold prS
  split
  · next hc =>
    have hk17 : x.cut.toNat ≤ 17 := by omega
    have K : Kep x { prK (prX x) page b r D y x.cut.toNat with off := true } := ⟨by show (prX x).p = _; rw [hx, b1], by show (bsK (prX x).bs D page _).length = _; rw [hx, b2]; exact hbl _ hk17, by show (bkK (prX x).bk _ _ _ _).length = _; rw [bkK_len, hx, b3]⟩
    have hcb := cutK_b (k := x.cut.toNat) H.cut1 H.cut2 (.inr (by omega))
    refine ⟨nok_of H K ?_ ?_ ?_ ?_ ?_ ?_ ?_ ?_ ?_ ?_ ?_ ?_, K, by show (prX x).rd = _; rw [hx, b6], by show (prX x).pr = _; rw [hx, b7], by show (prX x).er = _; rw [hx, b8]⟩
    · show ∀ y' ∈ bkK (prX x).bk b y r _, _; rw [hx, b3]; exact fun y' h => (hnxk _ y' h).1
    · show ∀ y' ∈ bkK (prX x).bk b y r _, 0 ≤ y'.wear ∧ y'.wear ≤ (prX x).er; rw [hx, b3, b8]; exact fun y' h => (hnxk _ y' h).2
    · show -1 ≤ cutK (prX x).cut _; rw [hx, b5]; exact hcb.1
    · show cutK (prX x).cut _ ≤ _; rw [hx, b5]; exact hcb.2
    · show -1 ≤ (prX x).fail; rw [hx]; exact b10 f1
    · show (prX x).fail ≤ _; rw [hx]; omega
    · show 0 ≤ (prX x).rd; rw [hx, b6]; exact r1
    · show (prX x).rd ≤ _; rw [hx, b6]; exact r2
    · show 0 ≤ (prX x).pr; rw [hx, b7]; omega
    · show (prX x).pr ≤ _; rw [hx, b7]; omega
    · show 0 ≤ (prX x).er; rw [hx, b8]; exact e1
    · show (prX x).er ≤ _; rw [hx, b8]; exact e2
  · next hc =>
    have hkm : ∀ k, k = prM x → x.cut < 0 ∨ (k : Int) ≤ x.cut := fun k hk => by have := H.cut1; omega
    split
    · next h0 =>
      have h4 : prM x = 4 := by unfold prM; rw [if_pos h0]
      have K : Kep x { prK (prX x) page b r D y 4 with bk := x.bk.set b { y with next := (r : Int) + 1, bad := true } } := ⟨by show (prX x).p = _; rw [hx, b1], by show (bsK (prX x).bs D page _).length = _; rw [hx, b2]; exact hbl _ (by omega), by show (x.bk.set b _).length = _; rw [List.length_set]⟩
      have hcb := cutK_b (k := 4) H.cut1 H.cut2 (hkm 4 h4.symm)
      have hset : ∀ y' ∈ x.bk.set b { y with next := (r : Int) + 1, bad := true }, (0 ≤ y'.next ∧ y'.next ≤ x.p) ∧ 0 ≤ y'.wear ∧ y'.wear ≤ x.er := fun y' hy' => by
        rcases mem_set_or hy' with h | rfl
        · exact ⟨H.nx y' h, H.wr y' h⟩
        · exact ⟨by simp only; omega, hyw⟩
      refine ⟨nok_of H K ?_ ?_ ?_ ?_ ?_ ?_ ?_ ?_ ?_ ?_ ?_ ?_, K, by show (prX x).rd = _; rw [hx, b6], by show (prX x).pr = _; rw [hx, b7], by show (prX x).er = _; rw [hx, b8]⟩
      · exact fun y' h => (hset y' h).1
      · show ∀ y' ∈ x.bk.set b _, 0 ≤ y'.wear ∧ y'.wear ≤ (prX x).er; rw [hx, b8]; exact fun y' h => (hset y' h).2
      · show -1 ≤ cutK (prX x).cut _; rw [hx, b5]; exact hcb.1
      · show cutK (prX x).cut _ ≤ _; rw [hx, b5]; exact hcb.2
      · show -1 ≤ (prX x).fail; rw [hx]; exact b10 f1
      · show (prX x).fail ≤ _; rw [hx]; omega
      · show 0 ≤ (prX x).rd; rw [hx, b6]; exact r1
      · show (prX x).rd ≤ _; rw [hx, b6]; exact r2
      · show 0 ≤ (prX x).pr; rw [hx, b7]; omega
      · show (prX x).pr ≤ _; rw [hx, b7]; omega
      · show 0 ≤ (prX x).er; rw [hx, b8]; exact e1
      · show (prX x).er ≤ _; rw [hx, b8]; exact e2
    · next h0 =>
      have h17 : prM x = 17 := by unfold prM; rw [if_neg h0]
      have K : Kep x (prK (prX x) page b r D y 17) := ⟨by show (prX x).p = _; rw [hx, b1], by show (bsK (prX x).bs D page _).length = _; rw [hx, b2]; exact hbl _ (by omega), by show (bkK (prX x).bk b y r 17).length = _; rw [bkK_len, hx, b3]⟩
      have hcb := cutK_b (k := 17) H.cut1 H.cut2 (hkm 17 h17.symm)
      refine ⟨nok_of H K ?_ ?_ ?_ ?_ ?_ ?_ ?_ ?_ ?_ ?_ ?_ ?_, K, by show (prX x).rd = _; rw [hx, b6], by show (prX x).pr = _; rw [hx, b7], by show (prX x).er = _; rw [hx, b8]⟩
      · show ∀ y' ∈ bkK (prX x).bk b y r 17, 0 ≤ y'.next ∧ y'.next ≤ x.p; rw [hx, b3]; exact fun y' h => (hnxk _ y' h).1
      · show ∀ y' ∈ bkK (prX x).bk b y r 17, 0 ≤ y'.wear ∧ y'.wear ≤ (prX x).er; rw [hx, b3, b8]; exact fun y' h => (hnxk _ y' h).2
      · show -1 ≤ cutK (prX x).cut _; rw [hx, b5]; exact hcb.1
      · show cutK (prX x).cut _ ≤ _; rw [hx, b5]; exact hcb.2
      · show -1 ≤ (prX x).fail; rw [hx]; exact b10 f1
      · show (prX x).fail ≤ _; rw [hx]; omega
      · show 0 ≤ (prX x).rd; rw [hx, b6]; exact r1
      · show (prX x).rd ≤ _; rw [hx, b6]; exact r2
      · show 0 ≤ (prX x).pr; rw [hx, b7]; omega
      · show (prX x).pr ≤ _; rw [hx, b7]; omega
      · show 0 ≤ (prX x).er; rw [hx, b8]; exact e1
      · show (prX x).er ≤ _; rw [hx, b8]; exact e2
theorem kep_refl (x : NS) : Kep x x := ⟨rfl, rfl, rfl⟩
theorem pgS_ok {x : NS} {np : Nat} (H : NOk x np) (z : Int) (D : List Int) (hpr : x.pr + 1 ≤ 1000) : NOk (pgS x np z D) np ∧ Kep x (pgS x np z D) ∧ (pgS x np z D).rd = x.rd ∧ (pgS x np z D).pr ≤ x.pr + 1 ∧ (pgS x np z D).er = x.er := by
  have hid : NOk x np ∧ Kep x x ∧ x.rd = x.rd ∧ x.pr ≤ x.pr + 1 ∧ x.er = x.er := ⟨H, kep_refl x, rfl, by omega, rfl⟩
  unfold pgS
  split
  · exact hid
  · next h0 =>
    split
    · exact hid
    · obtain ⟨page, b, r, y, rfl, h1, rfl, rfl, hy, hq, hr, hrp⟩ := page_at H (z := z) (by omega)
      simp only [Int.toNat_natCast, hy]
      split
      · exact hid
      · split
        · exact hid
        · obtain ⟨g1, g2, g3, g4, g5⟩ := prS_ok (D := D) H hy hrp h1 hpr
          exact ⟨g1, g2, g3, by omega, g5⟩
theorem stS_ok {x : NS} {np : Nat} (H : NOk x np) : NOk (stS x) np ∧ Kep x (stS x) := by
  obtain ⟨c1, c2, c3, c4, c5, c6, c7, c8, c9⟩ := stS_keep x
  have K : Kep x (stS x) := ⟨c1, by rw [c2], by rw [c3]⟩
  refine ⟨nok_of H K (by rw [c3]; exact H.nx) (by rw [c3, c7]; exact H.wr) (c9 H.cut1) (by have := H.cut2; omega) (by rw [c4]; exact H.fail1) (by rw [c4]; exact H.fail2) (by rw [c5]; exact H.rd1) (by rw [c5]; exact H.rd2) (by rw [c6]; exact H.pr1) (by rw [c6]; exact H.pr2) (by rw [c7]; exact H.er1) (by rw [c7]; exact H.er2), K⟩
theorem erF_ok {x : NS} {np : Nat} (H : NOk x np) {n o w : Nat} {v : Int} {z : Bk} (ho : o + w ≤ x.bs.length) (hz : 0 ≤ z.next ∧ z.next ≤ x.p) (hw : 0 ≤ z.wear ∧ z.wear ≤ x.er) : NOk (erF x n o w v z) np ∧ Kep x (erF x n o w v z) := by
  have K : Kep x (erF x n o w v z) := ⟨rfl, over2_len (by rw [List.length_replicate]; exact ho), List.length_set⟩
  refine ⟨nok_of H K (fun y' h => ?_) (fun y' h => ?_) H.cut1 H.cut2 H.fail1 H.fail2 H.rd1 H.rd2 H.pr1 H.pr2 H.er1 H.er2, K⟩
  · rcases mem_set_or h with h | rfl
    · exact H.nx y' h
    · exact hz
  · rcases mem_set_or h with h | rfl
    · exact H.wr y' h
    · exact hw
theorem kep_trans {a b c : NS} (h : Kep a b) (g : Kep b c) : Kep a c := ⟨g.p.trans h.p, g.bs.trans h.bs, g.len.trans h.len⟩
theorem erX_ok {x : NS} {np n : Nat} {y : Bk} (H : NOk x np) (hy : x.bk[n]? = some y) (her : x.er + 1 ≤ 1000) : NOk (erX x n y) np ∧ Kep x (erX x n y) ∧ (erX x n y).er = x.er + 1 ∧ (erX x n y).rd = x.rd ∧ (erX x n y).pr = x.pr := by
  obtain ⟨b1, b2, b3, b4, b5, b6, b7, b8, b9, b10⟩ := bgS_keep { x with er := x.er + 1, bk := x.bk.set n { y with wear := y.wear + 1 } }
  simp only at b1 b2 b3 b4 b5 b6 b7 b8 b9 b10
  have hx : erX x n y = bgS { x with er := x.er + 1, bk := x.bk.set n { y with wear := y.wear + 1 } } := rfl
  have hyn := H.nx y (List.mem_of_getElem? hy)
  have hyw := H.wr y (List.mem_of_getElem? hy)
  have f2 := H.fail2
  have e1 := H.er1
  rw [hx]
  have K : Kep x (bgS { x with er := x.er + 1, bk := x.bk.set n { y with wear := y.wear + 1 } }) := ⟨b1, by rw [b2], by rw [b3, List.length_set]⟩
  refine ⟨nok_of H K (fun y' h => ?_) (fun y' h => ?_) (by rw [b5]; exact H.cut1) (by rw [b5]; exact H.cut2) (b10 H.fail1) (by omega) (by rw [b6]; exact H.rd1) (by rw [b6]; exact H.rd2) (by rw [b7]; exact H.pr1) (by rw [b7]; exact H.pr2) (by rw [b8]; omega) (by rw [b8]; omega), K, b8, b6, b7⟩
  · rw [b3] at h
    rcases mem_set_or h with h | rfl
    · exact H.nx y' h
    · exact hyn
  · rw [b3] at h
    rw [b8]
    rcases mem_set_or h with h | rfl
    · have := H.wr y' h; omega
    · simp only; omega
theorem esS_ok {x : NS} {np : Nat} (H : NOk x np) (z : Int) (her : x.er + 1 ≤ 1000) : NOk (esS x z) np ∧ Kep x (esS x z) ∧ (esS x z).rd = x.rd ∧ (esS x z).pr = x.pr ∧ (esS x z).er ≤ x.er + 1 := by
  have hid : NOk x np ∧ Kep x x ∧ x.rd = x.rd ∧ x.pr = x.pr ∧ x.er ≤ x.er + 1 := ⟨H, kep_refl x, rfl, rfl, by omega⟩
  unfold esS
  split
  · exact hid
  · next h0 =>
    split
    · exact hid
    · obtain ⟨n, rfl⟩ : ∃ n : Nat, z = n := ⟨z.toNat, by omega⟩
      obtain ⟨y, hy⟩ : ∃ y, x.bk[n]? = some y := ⟨_, List.getElem?_eq_getElem (by omega)⟩
      simp only [Int.toNat_natCast, hy]
      split
      · exact hid
      · have hyw := H.wr y (List.mem_of_getElem? hy)
        obtain ⟨u1, u2, u3, u4, u5⟩ := erX_ok H hy her
        obtain ⟨a1, a2⟩ := stS_ok u1
        obtain ⟨i1, i2⟩ := block_in H (n := n) (by omega)
        obtain ⟨_, _, _, _, k5, k6, k7, _, _⟩ := stS_keep (erX x n y)
        have Ka := kep_trans u2 a2
        obtain ⟨d1, d2⟩ := erF_ok (n := n) (o := n * x.p * 68) (w := x.p * 68) (v := 0) (z := ⟨0, y.bad, true, y.wear + 1⟩) a1 (by rw [Ka.bs]; omega) ⟨Int.le_refl _, by simp only; omega⟩ ⟨by simp only; omega, by simp only; omega⟩
        have Kd := kep_trans Ka d2
        obtain ⟨g1, g2⟩ := stS_ok d1
        have Kg := kep_trans Kd g2
        obtain ⟨_, _, _, _, m5, m6, m7, _, _⟩ := stS_keep (erF (stS (erX x n y)) n (n * x.p * 68) (x.p * 68) 0 ⟨0, y.bad, true, y.wear + 1⟩)
        have er7 : (erF (stS (erX x n y)) n (n * x.p * 68) (x.p * 68) 0 ⟨0, y.bad, true, y.wear + 1⟩).er = x.er + 1 := k7.trans u3
        have rd7 : (erF (stS (erX x n y)) n (n * x.p * 68) (x.p * 68) 0 ⟨0, y.bad, true, y.wear + 1⟩).rd = x.rd := k5.trans u4
        have pr7 : (erF (stS (erX x n y)) n (n * x.p * 68) (x.p * 68) 0 ⟨0, y.bad, true, y.wear + 1⟩).pr = x.pr := k6.trans u5
        unfold erS
        simp only
        split
        · exact ⟨a1, Ka, k5.trans u4, k6.trans u5, by rw [k7, u3]; exact Int.le_refl _⟩
        · split
          · have K2 : Kep x { erF (stS (erX x n y)) n (n * x.p * 68) (x.p * 68) 0 ⟨0, y.bad, true, y.wear + 1⟩ with bk := (stS (erX x n y)).bk.set n ⟨0, true, true, y.wear + 1⟩ } := ⟨Kd.p, Kd.bs, by show ((stS (erX x n y)).bk.set n _).length = _; rw [List.length_set]; exact Ka.len⟩
            refine ⟨nok_of H K2 (fun y' h => ?_) (fun y' h => ?_) d1.cut1 d1.cut2 d1.fail1 d1.fail2 d1.rd1 d1.rd2 d1.pr1 d1.pr2 d1.er1 d1.er2, K2, rd7, pr7, Int.le_of_eq er7⟩
            · rcases mem_set_or h with h | rfl
              · have := a1.nx y' h; rw [Ka.p] at this; exact this
              · exact ⟨Int.le_refl _, by simp only; omega⟩
            · rcases mem_set_or h with h | rfl
              · exact a1.wr y' h
              · exact ⟨by simp only; omega, Int.le_trans (show y.wear + 1 ≤ x.er + 1 by omega) (Int.le_of_eq er7.symm)⟩
          · split
            · exact ⟨g1, Kg, by rw [m5, rd7], by rw [m6, pr7], by rw [m7, er7]; exact Int.le_refl _⟩
            · obtain ⟨l1, l2⟩ := erF_ok (n := n) (o := n * x.p * 68) (w := x.p * 68) (v := 255) (z := ⟨0, y.bad, false, y.wear + 1⟩) g1 (by rw [Kg.bs]; omega) ⟨Int.le_refl _, by simp only; omega⟩ ⟨by simp only; omega, by rw [m7, er7]; simp only; omega⟩
              exact ⟨l1, kep_trans Kg l2, m5.trans rd7, m6.trans pr7, Int.le_of_eq (m7.trans er7)⟩
end Go.Proofs.Ytmkolibmadbenaa.Am

