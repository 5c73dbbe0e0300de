/- Functions of the flash, walked. Conditions: those of each theorem. -/
import Derived.Test.YtmkolibmadbenaaAm5
import Derived.Test.YtmkolibmadbenaaNl3
namespace Go.Proofs.Ytmkolibmadbenaa.Am
open Go.Proofs
set_option maxRecDepth 1000000
set_option maxHeartbeats 4000000
set_option linter.unusedSimpArgs false
set_option linter.unusedVariables false
/-- A block but for its wear. -/
def nw (y : Bk) : Bk := { y with wear := 0 }
structure Sim (x x' : NS) : Prop where
  p : x'.p = x.p
  bs : x'.bs = x.bs
  off : x'.off = x.off
  cut : x'.cut = x.cut
  fail : x'.fail = x.fail
  bk : x'.bk.map nw = x.bk.map nw
theorem Sim.len {x x' : NS} (h : Sim x x') : x'.bk.length = x.bk.length := by
  have := congrArg List.length h.bk
  rwa [List.length_map, List.length_map] at this
theorem Sim.get {x x' : NS} (h : Sim x x') {b : Nat} {y : Bk} (hy : x.bk[b]? = some y) : ∃ y', x'.bk[b]? = some y' ∧ nw y' = nw y := by
  have h1 := congrArg (fun l => l[b]?) h.bk
  simp only [List.getElem?_map, hy, Option.map_some] at h1
  obtain ⟨y', e1, e2⟩ := Option.map_eq_some_iff.1 h1
  exact ⟨y', e1, e2⟩
theorem nw_eq {y y' : Bk} (h : nw y' = nw y) : y'.next = y.next ∧ y'.bad = y.bad ∧ y'.torn = y.torn := by
  have h1 := congrArg Bk.next h
  have h2 := congrArg Bk.bad h
  have h3 := congrArg Bk.torn h
  exact ⟨h1, h2, h3⟩
theorem tlI_nw (bk : List Bk) (k : Nat) : tlI (bk.map nw) k = tlI bk k := by
  unfold tlI
  rw [← List.map_take, List.flatMap_map]; rfl
theorem Sim.im {x x' : NS} (h : Sim x x') : imI x' = imI x := by
  unfold imI
  rw [h.bs, h.len, ← tlI_nw x'.bk, h.bk, tlI_nw]
theorem map_set_nw {l l' : List Bk} {b : Nat} {z z' : Bk} (h : l'.map nw = l.map nw) (hz : nw z' = nw z) : (l'.set b z').map nw = (l.set b z).map nw := by
  rw [List.map_set, List.map_set, h, hz]
theorem nw_next {y y' : Bk} (h : nw y' = nw y) (a : Int) : nw { y' with next := a } = nw { y with next := a } := by
  obtain ⟨h1, h2, h3⟩ := nw_eq h
  simp only [nw, h2, h3]
theorem bkK_nw {l l' : List Bk} {b r k : Nat} {y y' : Bk} (h : l'.map nw = l.map nw) (hy : nw y' = nw y) : (bkK l' b y' r k).map nw = (bkK l b y r k).map nw := by
  unfold bkK
  split
  · exact h
  · exact map_set_nw h (nw_next hy _)
theorem prX_sim {x x' : NS} (h : Sim x x') : Sim (prX x) (prX x') := by
  unfold prX bgS
  simp only [h.fail]
  split
  · exact ⟨h.p, h.bs, h.off, h.cut, rfl, h.bk⟩
  · exact ⟨h.p, h.bs, h.off, h.cut, by first | exact h.fail | rfl, h.bk⟩
theorem prM_sim {x x' : NS} (h : Sim x x') : prM x' = prM x := by unfold prM; rw [h.fail]
theorem prS_sim {x x' : NS} (h : Sim x x') {page b r : Nat} {D : List Int} {y y' : Bk} (hy : nw y' = nw y) : Sim (prS x page b r D y) (prS x' page b r D y') := by
  have g := prX_sim h
  unfold prS
  rw [prM_sim h, h.cut, h.fail]
  split
  · exact ⟨g.p, by simp only [prK, g.bs], rfl, by simp only [prK, g.cut], g.fail, bkK_nw (k := x.cut.toNat) g.bk hy⟩
  · split
    · exact ⟨g.p, by simp only [prK, g.bs], g.off, by simp only [prK, g.cut], g.fail, map_set_nw h.bk (by obtain ⟨h1, h2, h3⟩ := nw_eq hy; simp only [nw, h3])⟩
    · exact ⟨g.p, by simp only [prK, g.bs], g.off, by simp only [prK, g.cut], g.fail, bkK_nw (k := 17) g.bk hy⟩
theorem prE_sim {x x' : NS} (h : Sim x x') : prE x' = prE x := by unfold prE; rw [prM_sim h, h.cut, h.fail]
theorem pg_sim {x x' : NS} (h : Sim x x') (np : Nat) (z : Int) (D : List Int) : Sim (pgS x np z D) (pgS x' np z D) ∧ pgE x' np z D.length = pgE x np z D.length := by
  unfold pgS pgE
  rw [h.off, h.p]
  split
  · exact ⟨h, rfl⟩
  · split
    · exact ⟨h, rfl⟩
    · cases hy : x.bk[z.toNat / x.p]? with
      | none =>
        have : x'.bk[z.toNat / x.p]? = none := by
          rw [List.getElem?_eq_none_iff] at hy ⊢
          rw [h.len]; exact hy
        rw [this]
        exact ⟨h, rfl⟩
      | some y =>
        obtain ⟨y', hy', hn⟩ := h.get hy
        obtain ⟨h1, h2, h3⟩ := nw_eq hn
        rw [hy']
        simp only [h1, h2, h3]
        split
        · exact ⟨h, rfl⟩
        · split
          · exact ⟨h, rfl⟩
          · exact ⟨prS_sim h hn, prE_sim h⟩
theorem stS_sim {x x' : NS} (h : Sim x x') : Sim (stS x) (stS x') ∧ stB x' = stB x := by
  unfold stS stB
  rw [h.off, h.cut]
  refine ⟨?_, rfl⟩
  split
  · exact h
  · split
    · exact ⟨h.p, h.bs, rfl, by first | exact h.cut | rfl, h.fail, h.bk⟩
    · split
      · exact ⟨h.p, h.bs, by first | exact h.off | rfl, rfl, h.fail, h.bk⟩
      · exact h
theorem erX_sim {x x' : NS} (h : Sim x x') {n : Nat} {y y' : Bk} (hy : nw y' = nw y) : Sim (erX x n y) (erX x' n y') := by
  have hs := map_set_nw (b := n) h.bk (show nw { y' with wear := y'.wear + 1 } = nw { y with wear := y.wear + 1 } from hy)
  unfold erX bgS
  simp only [h.fail]
  split
  · exact ⟨h.p, h.bs, h.off, h.cut, rfl, hs⟩
  · exact ⟨h.p, h.bs, h.off, h.cut, by first | exact h.fail | rfl, hs⟩
theorem erF_sim {x x' : NS} (h : Sim x x') {n o w : Nat} {v : Int} {z z' : Bk} (hz : nw z' = nw z) : Sim (erF x n o w v z) (erF x' n o w v z') :=
  ⟨h.p, by simp only [erF, h.bs], h.off, h.cut, h.fail, map_set_nw h.bk hz⟩
theorem er_sim {x x' : NS} (h : Sim x x') {n o w : Nat} {y y' : Bk} (hy : nw y' = nw y) : Sim (erS x n o w y) (erS x' n o w y') ∧ erE x' n o w y' = erE x n o w y := by
  obtain ⟨h1, h2, h3⟩ := nw_eq hy
  have a := erX_sim (n := n) h hy
  obtain ⟨b, b2⟩ := stS_sim a
  have hz : nw ⟨0, y'.bad, true, y'.wear + 1⟩ = nw ⟨0, y.bad, true, y.wear + 1⟩ := by simp only [nw, h2]
  have hz3 : nw ⟨0, y'.bad, false, y'.wear + 1⟩ = nw ⟨0, y.bad, false, y.wear + 1⟩ := by simp only [nw, h2]
  have d := erF_sim (n := n) (o := o) (w := w) (v := 0) b hz
  obtain ⟨e, e2⟩ := stS_sim d
  unfold erS erE
  simp only
  rw [b2, e2, h.fail]
  refine ⟨?_, rfl⟩
  split
  · exact b
  · split
    · exact ⟨d.p, d.bs, d.off, d.cut, d.fail, map_set_nw b.bk rfl⟩
    · split
      · exact e
      · exact erF_sim e hz3
theorem es_sim {x x' : NS} (h : Sim x x') (z : Int) : Sim (esS x z) (esS x' z) ∧ esE x' z = esE x z := by
  unfold esS esE
  rw [h.off, h.p, h.len]
  split
  · exact ⟨h, rfl⟩
  · split
    · exact ⟨h, rfl⟩
    · cases hy : x.bk[z.toNat]? with
      | none =>
        have : x'.bk[z.toNat]? = none := by
          rw [List.getElem?_eq_none_iff] at hy ⊢
          rw [h.len]; exact hy
        rw [this]
        exact ⟨h, rfl⟩
      | some y =>
        obtain ⟨y', hy', hn⟩ := h.get hy
        obtain ⟨h1, h2, h3⟩ := nw_eq hn
        rw [hy']
        simp only [h2]
        split
        · exact ⟨h, rfl⟩
        · exact er_sim h hn
end Go.Proofs.Ytmkolibmadbenaa.Am

