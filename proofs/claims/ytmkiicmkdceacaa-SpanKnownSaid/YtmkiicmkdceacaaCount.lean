/- How many runs two tables of a flat map have, as the function of the program counts them; in every memory. No conditions. -/
import Derived.Test.YtmkiicmkdceacaaTb
namespace Go.Proofs.Ytmkiicmkdceacaa.Am
open Go.Proofs
set_option maxRecDepth 1000000
def iv (n : Int) : V := .i .i64 n
def holes : Nat → List V
  | 0 => []
  | n + 1 => iv (-1) :: holes n
def tab1 : List V := iv 10 :: iv 11 :: iv 12 :: iv 13 :: holes 508
def tab2 : List V := iv 10 :: iv 11 :: iv 3 :: iv 13 :: holes 508
/-- A memory of one block that is only read. -/
def mem1 (cs : List V) : LH := ⟨1, 0, .n .e (some ⟨cs, 3, false⟩) .e⟩
def saysInt (k : Int) : Option (V × LH) → Bool
  | some (.i .i64 n, _) => decide (n = k)
  | _ => false
theorem saysInt_spec {k : Int} {x : Option (V × LH)} (h : saysInt k x = true) : ∃ m, x = some (.i .i64 k, m) := by
  unfold saysInt at h
  split at h
  · next n m => have h : n = k := by simpa using h
                subst h; exact ⟨m, rfl⟩
  · cases h
theorem run1 : saysInt 1 (evF tb 100000 49 [.sl (some (0, 0)) 512 512 true] (mem1 tab1)) = true := by kernel_rfl
theorem run2 : saysInt 3 (evF tb 100000 49 [.sl (some (0, 0)) 512 512 true] (mem1 tab2)) = true := by kernel_rfl
def plainL : List V → Bool
  | [] => true
  | .i _ _ :: l => plainL l
  | _ => false
theorem plainL_spec : ∀ {l : List V}, plainL l = true → ∀ (j : Nat) (u : V), l[j]? = some u → plainV u
  | [], _, j, u, h => by simp at h
  | v :: l, hp, j, u, h => by
    unfold plainL at hp
    split at hp
    · next e => cases e
    · next k n l' e =>
      injection e with e1 e2; subst e1; subst e2
      cases j with
      | zero => simp only [List.getElem?_cons_zero, Option.some.injEq] at h; subst h; trivial
      | succ j => exact plainL_spec hp j u (by simpa using h)
    · cases hp
/-- What the count of a known table is. -/
def countS (tab : List V) (k : Int) : List V → LH → Option (V × LH) := fun vs h => match vs with
  | [.sl (some (l, o)) n c true] => if n = 512 ∧ c = 512 then (match cellsAt h l o 512 with
    | some cs => if beqL cs tab then some (.i .i64 k, h) else none
    | none => none) else none
  | _ => none
theorem cellsAt_get {h : LH} {l o n : Nat} {cs : List V} (hc : cellsAt h l o n = some cs) : ∃ b, h.get l = some b ∧ ∀ j u, cs[j]? = some u → b.cells[o + j]? = some u := by
  unfold cellsAt at hc
  split at hc
  · next b hb =>
    simp only at hc
    split at hc
    · next hn =>
      injection hc with hc; subst hc
      refine ⟨b, hb, fun j u hj => ?_⟩
      have hjn : j < n := by have := (List.getElem?_eq_some_iff.1 hj).1; omega
      rwa [List.getElem?_take_of_lt hjn, List.getElem?_drop] at hj
    · cases hc
  · cases hc
theorem mixed : Try.prog.follows .mixedOrders = true := by kernel_rfl
theorem countS_ok {tab : List V} {k : Int} (hp : plainL tab = true) (hr : saysInt k (evF tb 100000 49 [.sl (some (0, 0)) 512 512 true] (mem1 tab)) = true) (vs : List V) (h : LH) (v : V) (h' : LH) (hc : countS tab k vs h = some (v, h')) : FC Try.prog 49 vs h v h' := by
  obtain ⟨m, hm⟩ := saysInt_spec hr
  have h0 := FC.ev mixed hm
  unfold countS at hc
  split at hc
  · next l o n c =>
    split at hc
    · next hn =>
      split at hc
      · next cs hcs =>
        split at hc
        · next hb =>
          simp only [Option.some.injEq, Prod.mk.injEq] at hc
          obtain ⟨rfl, rfl⟩ := hc
          have hbe := beqL_sound _ _ hb
          subst hbe
          obtain ⟨rfl, rfl⟩ := hn
          obtain ⟨b', hb', hj'⟩ := cellsAt_get hcs
          refine FC.reads (fun _ => (l, o)) h0 (Nat.zero_le _) (fun q b hq => ?_) (fun r => ?_) ⟨by show 0 < 1; omega, trivial⟩ trivial
          · cases q with
            | zero =>
              injection hq with hq; subst hq
              exact ⟨by show 0 < 1; omega, rfl, fun j u hj => ⟨plainL_spec hp j u hj, b', hb', hj' j u hj⟩⟩
            | succ q => 
              have : (mem1 cs).get (q + 1) = none := by
                simp only [mem1, LH.get, T.get]
                split <;> rfl
              rw [this] at hq; cases hq
          · simp [conL, con, via, add_add]
        · cases hc
      · cases hc
    · cases hc
  · cases hc
/-- The tables, two counts being known. -/
def countSpec : FuncId → Option (List V → LH → Option (V × LH)) := fun g => if g = 49 then some (fun vs h => match countS tab1 1 vs h with
  | some x => some x
  | none => countS tab2 3 vs h) else none
theorem countSpec_ok : ∀ g s, countSpec g = some s → ∀ (B : Nat) (W : World) (r : Rho) (w : World) (vs : List V) (h : LH) (v : V) (h' : LH), s vs h = some (v, h') → okL h.next vs → RelH Try.prog B W r h w →
    Calls Try.prog g (conL r vs).toArray w (fun e w' => ∃ u, e = .returned u ∧ Leaves Try.prog B W r h v h' u w') := fun g s hg B W r w vs h v h' hs hok R => by
  unfold countSpec at hg
  split at hg
  · next e =>
    injection hg with hg; subst hg; subst e
    simp only at hs
    split at hs
    · next x hx =>
      injection hs with hs; subst hs
      exact countS_ok (by kernel_rfl) run1 vs h v h' hx B W r w hok R
    · exact countS_ok (by kernel_rfl) run2 vs h v h' hs B W r w hok R
  · cases hg
noncomputable def tbS : Tb Try.prog := { tb with spec := countSpec, specOk := countSpec_ok }
end Go.Proofs.Ytmkiicmkdceacaa.Am
