/- Functions of the flash, walked. Conditions: those of each theorem. -/
import Derived.Test.YtmkolibmadbenaaAm5
import Derived.Test.YtmkolibmadbenaaNp1
namespace Go.Proofs.Ytmkolibmadbenaa.Am
open Go.Proofs
set_option maxRecDepth 1000000
set_option maxHeartbeats 4000000
set_option linter.unusedSimpArgs false
set_option linter.unusedVariables false
/-- The document's own flash behind other blocks. -/
def rfB (o : Nat) (x : NS) : List (Option Blk) := [some ⟨cellsR (rwI .u8) x.bs, 5, true⟩, some ⟨cellsR rwB (x.bk.map Bk.bad), 4, true⟩, some ⟨cellsR rwB (x.bk.map Bk.torn), 4, true⟩, some ⟨cellsR (rwI .i64) (x.bk.map Bk.next), 3, true⟩,
  some ⟨[.i .i64 x.bk.length, .i .i64 x.p, .sl (some (o,0)) x.bs.length x.bs.length false, .sl (some (o+1,0)) x.bk.length x.bk.length false, .sl (some (o+2,0)) x.bk.length x.bk.length false, .sl (some (o+3,0)) x.bk.length x.bk.length false, .i .i64 x.cut, .i .i64 x.fail, .b (!x.off), .i .i64 x.rd, .i .i64 x.pr, .i .i64 x.er], 48, true⟩]
def isM (x : NS) : List (Option Blk) := ndM x ++ rfB 3 x
def isN (x : NS) : List (Option Blk) := isM x ++ [some ⟨[.i .i64 x.rd, .i .i64 x.pr, .i .i64 x.er], 55, true⟩]
def imB (x : NS) : Option Blk := some ⟨cellsR (rwI .u8) (imI x), 5, true⟩
theorem is_power (x : NS) : ∃ h', FC Try.prog 29 [.p (some (2,0))] (lockH (mem 0 (isN x))) (.b (!x.off)) h' :=
  ⟨_, FC.locked [0,1,2] (power_walk x) (by simp [okL, okV, ndR]) (by simp [embP, okL, okV, mapL, mapV, lockH, mem_next, mem_get, mem_ro, mapL_cellsR, okL_cellsR, ndR, isN, isM, ndM, rfB] <;> simp [LH.get, mem, memT, T.get, T.put, T.setF]) rfl trivial⟩
theorem is_image (x : NS) (h0 : 0 < x.bs.length) (hm : x.bs.length ≤ 1000000) (hk : x.bk.length ≤ 1000) (hb : ∀ y ∈ x.bk, 0 ≤ y.next ∧ y.next ≤ 255) :
    FC Try.prog 27 [.p (some (2,0))] (mem 0 (isN x)) (.sl (some (9,0)) (imI x).length (imI x).length true) (mem 0 (isN x ++ [imB x])) := by
  have := FC.explicit [0,1,2] (image_walk x h0 hm hk hb) (by simp [okL, okV, ndR]) rfl (by simp [embP, okL, okV, mapL, mapV, mem_next, mem_get, mem_ro, mapL_cellsR, okL_cellsR, ndR, isN, isM, ndM, rfB] : embP (fun i => [0,1,2].getD i 0) (mem 0 (isN x)) (ndR x).length 0 (ndR x)) rfl
  simpa [isN, isM, ndM, ndR, rfB, plugL, setsL, newsL, isOwn, ownB, over, mapL, mapV, mapL_cellsR, imB] using this
theorem is_rimage (x : NS) (h0 : 0 < x.bs.length) (hm : x.bs.length ≤ 1000000) (hk : x.bk.length ≤ 1000) (hb : ∀ y ∈ x.bk, 0 ≤ y.next ∧ y.next ≤ 255) :
    FC Try.prog 41 [.p (some (7,0))] (mem 0 (isN x ++ [imB x])) (.sl (some (10,0)) (imI x).length (imI x).length true) (mem 0 (isN x ++ [imB x] ++ [imB x])) := by
  have := FC.explicit [3,4,5,6,7] (rimage_walk x h0 hm hk hb) (by simp [okL, okV, rfM]) rfl (by simp [embP, okL, okV, mapL, mapV, mem_next, mem_get, mem_ro, mapL_cellsR, okL_cellsR, rfM, isN, isM, ndM, rfB, imB] : embP (fun i => [3,4,5,6,7].getD i 0) (mem 0 (isN x ++ [imB x])) (rfM x).length 0 (rfM x)) rfl
  simpa [isN, isM, ndM, rfM, rfB, plugL, setsL, newsL, isOwn, ownB, over, mapL, mapV, mapL_cellsR, imB] using this
theorem is_same (x : NS) : ∃ h', FC Try.prog 21 [.sl (some (9,0)) (imI x).length (imI x).length true, .sl (some (10,0)) (imI x).length (imI x).length true] (lockH (mem 0 (isN x ++ [imB x] ++ [imB x]))) (.b true) h' :=
  ⟨_, FC.locked [9,10] (same_walk (imI x) (imI x).length (imI x).length (imI x).length true true rfl) (by simp [okL, okV]) (by simp [embP, okL, okV, mapL, mapV, lockH, mem_next, mem_get, mem_ro, mapL_cellsR, okL_cellsR, isN, isM, ndM, rfB, imB] <;> simp [LH.get, mem, memT, T.get, T.put, T.setF]) rfl trivial⟩
end Go.Proofs.Ytmkolibmadbenaa.Am

