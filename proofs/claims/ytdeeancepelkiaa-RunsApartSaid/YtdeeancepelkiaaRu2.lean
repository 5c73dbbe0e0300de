/- The runs that a range cuts, its loop, walked. Conditions: those of each theorem. -/
import Derived.Test.YtdeeancepelkiaaRu1
namespace Go.Proofs.Ytdeeancepelkiaa.Am
open Go.Proofs
set_option maxRecDepth 1000000
set_option maxHeartbeats 4000000
set_option linter.unusedSimpArgs false
set_option linter.unusedVariables false
def slP (p : Nat) (l : List Rn) : V := match l with
  | [] => .sl none 0 0 false
  | _ :: t => .sl (some (p, 0)) (t.length + 1) (t.length + 1) true
def bkL (l : List Rn) : Option Blk := match l with
  | [] => none
  | x :: t => some ⟨cellsR rwRn (x :: t), 57, true⟩
def ptP (p : Nat) (o : Option Rn) : V := match o with
  | none => .p none
  | some _ => .p (some (p, 0))
def bkP (o : Option Rn) : Option Blk := match o with
  | none => none
  | some r => some ⟨[.i .i64 r.a, .i .i64 r.b, .i .i64 r.c], 57, true⟩
/-- How far a run lies ahead of a range's end. -/
def past (lba n : Int) (r : Rn) : Int := max 0 (lba + n - r.a)
def offR (r : Rn) (p : Int) : Rn := ⟨r.a + p, r.b - p, r.c + p⟩
def cutG (lba n : Int) : List Rn → List Rn → Option Rn → List Rn × Option Rn
  | [], o, b => (o, b)
  | r :: t, o, b => if r.a > lba + n then (o, b) else cutG lba n t (o ++ [r]) (if r.b > past lba n r then some (offR r (past lba n r)) else b)
def geR (k : Int) (L : List Rn) : List Rn := L.filter fun r => decide (r.a ≥ k)
def SrtR (L : List Rn) : Prop := L.Pairwise fun x y => x.a < y.a
theorem ceil_head (k : Int) (L : List Rn) : ceilR k L = (geR k L).head? := by
  simp only [ceilR, geR, List.head?_filter]
theorem geR_tail {k : Int} {L t : List Rn} {r : Rn} (hs : SrtR L) (h : geR k L = r :: t) : geR (r.a + 1) L = t := by
  have hr : r ∈ geR k L := by rw [h]; simp
  have hk : r.a ≥ k := by simpa [geR] using (List.mem_filter.1 hr).2
  have hs2 : SrtR (r :: t) := by rw [← h]; exact hs.filter _
  have e : geR (r.a + 1) L = geR (r.a + 1) (geR k L) := by
    simp only [geR, List.filter_filter]
    exact List.filter_congr fun x _ => by
      by_cases h1 : x.a ≥ r.a + 1
      · simp [h1]; omega
      · simp [h1]
  rw [e, h]
  have h1 := (List.pairwise_cons.1 hs2).1
  have e1 : geR (r.a + 1) (r :: t) = geR (r.a + 1) t := by simp only [geR]; rw [List.filter_cons_of_neg (by simp; omega)]
  rw [e1]
  exact List.filter_eq_self.2 fun x hx => by have := h1 x hx; simp; omega
theorem cutG_far {lba n : Int} {k : Int} {L t : List Rn} (h : geR k L = t) (hk : k > lba + n) (o : List Rn) (b : Option Rn) : cutG lba n t o b = (o, b) := by
  cases t with
  | nil => rfl
  | cons r t =>
    have hr : r ∈ geR k L := by rw [h]; simp
    have : r.a ≥ k := by simpa [geR] using (List.mem_filter.1 hr).2
    simp only [cutG]; rw [if_pos (by omega)]
theorem Rn_one1 (r : Rn) : cellsR rwRn [r] = [.i .i64 r.a, .i .i64 r.b, .i .i64 r.c] := by simp [cellsR, rwRn]
structure CSt where
  at_ : Int
  o : List Rn
  b : Option Rn
  t : List Rn
def SSc (lba n : Int) (ah : Option Rn) (a : CSt) : List (Nat × V) := [(0, .p (some (3,0))), (1, .i .i64 lba), (2, .i .i64 n), (6, slP 4 a.o), (7, ptP 5 ah), (8, ptP 6 a.b), (11, .i .i64 a.at_)]
def MMc (cap most : Nat) (s : TS) (ah : Option Rn) (a : CSt) : List (Option Blk) := rmR cap most s ++ [bkL a.o, bkP ah, bkP a.b]
abbrev PostC (cap most : Nat) (s : TS) (ah : Option Rn) (o : List Rn) (b : Option Rn) : Ex → T V → LH → Prop := fun x t' h' => (x = .n ∨ x = .r) ∧ ∃ v, resV tb t' h' (Try.f32).results.toList = some v ∧ ∃ M1, h' = mem 0 M1 ∧ ∃ w M2 v', SeenM w 4 M1 M2 ∧ v = mapV (fun i => w.getD i 0) v' ∧ okV M2.length v' ∧ v' = .tup [slP 4 o, ptP 5 ah, ptP 6 b] ∧ M2 = rmR cap most s ++ [bkL o, bkP ah, bkP b]
theorem cut_end (cap most : Nat) (s : TS) (o : List Rn) (ah b : Option Rn) : SeenM [0,1,2,3,4,5,6] 4 (rmR cap most s ++ [bkL o, bkP ah, bkP b]) (rmR cap most s ++ [bkL o, bkP ah, bkP b]) := by
  rcases ah with _ | ah <;> rcases o with _ | ⟨x, o⟩ <;> rcases b with _ | b <;> exact ⟨rfl, rfl, (by simp [viewP, okL, okV, mapL, mapV, mem_get, mapL_cellsR, okL_cellsR, rmR, tsR, trR, arR, bkL, bkP]), rfl⟩
theorem cut_endV (o : List Rn) (ah b : Option Rn) : V.tup [slP 4 o, ptP 5 ah, ptP 6 b] = mapV (fun i => ([0,1,2,3,4,5,6] : List Nat).getD i 0) (V.tup [slP 4 o, ptP 5 ah, ptP 6 b]) ∧ okV 7 (V.tup [slP 4 o, ptP 5 ah, ptP 6 b]) := by
  rcases ah with _ | ah <;> rcases o with _ | ⟨x, o⟩ <;> rcases b with _ | b <;> simp [slP, ptP, mapV, mapL, okV, okL]
theorem cut_loop (cap most : Nat) (s : TS) (lba n : Int) (ah : Option Rn) (a : CSt) (h : TOk most s) (hc : cap ≤ 512) (hm : most ≤ 512) (h1 : 1 ≤ n) (h2 : n ≤ cap) (h3 : 0 ≤ lba) (h4 : lba ≤ cap - n) (hb : ∀ r ∈ runsT s.T, RB r) (hs : SrtR (runsT s.T))
    (ha : a.at_ ≤ 2000 ∧ 0 ≤ a.at_ ∧ geR a.at_ (runsT s.T) = a.t ∧ a.o.length + a.t.length ≤ 513) :
    WS Try.prog (frameN Try.f32 3) 4 [.c (k1 (k2 (k1 (k2 (k2 (kb Try.f32)))))), .b (kid (k2 (k1 (k2 (k2 (kb Try.f32)))))), .c (k2 (k2 (k2 (kb Try.f32))))] (slt (SSc lba n ah a)) (mem 0 (MMc cap most s ah a)) (PostC cap most s ah (cutG lba n a.t a.o a.b).1 (cutG lba n a.t a.o a.b).2) := by
  obtain ⟨⟨o9, b9⟩, hG⟩ : ∃ q, cutG lba n a.t a.o a.b = q := ⟨_, rfl⟩
  rw [hG]
  have hl := h.len
  have hle := h.le
  refine WS.ploopI (σ := CSt) (τ := Unit) (SSc lba n ah) (MMc cap most s ah) (fun a => (a.at_ ≤ 2000 ∧ 0 ≤ a.at_ ∧ geR a.at_ (runsT s.T) = a.t ∧ a.o.length + a.t.length ≤ 513) ∧ cutG lba n a.t a.o a.b = (o9, b9)) (fun a => a.t.length)
    (fun _ => [(6, slP 4 o9), (7, ptP 5 ah), (8, ptP 6 b9)]) (fun _ => rmR cap most s ++ [bkL o9, bkP ah, bkP b9]) (fun _ => True) 0 [0,1,2,3,4,5,6] a rfl ⟨ha, hG⟩ (by
      obtain ⟨at_, o, b, t⟩ := a
      rcases ah with _ | ah <;> rcases o with _ | ⟨x, o⟩ <;> rcases b with _ | b <;> exact ⟨rfl, rfl, (by simp [viewP, okL, okV, mapL, mapV, mem_get, mapL_cellsR, okL_cellsR, SSc, MMc, rmR, tsR, trR, arR, bkL, bkP, slP, ptP]), (by first | exact rfl | exact own2_dist rfl rfl), (by simp only [slotsP, okV, okL, mapV, mapL, and_true, true_and, List.length_cons, List.length_nil, List.length_append, List.length_map, Nat.reduceAdd, Nat.reduceLT, SSc, MMc, rmR, tsR, trR, arR, bkL, bkP, slP, ptP]; repeat' (first | exact rfl | refine ⟨?_, ?_⟩ | exact lk_m rfl (hmp _ rfl) | exact lk_m rfl (hmp2 _ rfl) | exact hok _ (Nat.le_of_ble_eq_true rfl) | exact hok2 _ (Nat.le_of_ble_eq_true rfl) | exact lk_i rfl (by omega) | exact lk_sl rfl (by omega) (by omega) (by omega) | decide | omega))⟩) rfl ?_ ?_
  · rintro ⟨at_, o, b, t⟩ ⟨⟨g1, g2, g3, g4⟩, g5⟩
    dsimp only at g1 g2 g3 g4 g5
    simp only [SSc, MMc, rmR, tsR, trR, arR, List.cons_append, List.nil_append]
    by_cases hfar : at_ > lba + n
    · rw [cutG_far g3 hfar] at g5
      obtain ⟨rfl, rfl⟩ := Prod.mk.inj g5
      refine WS.pseq rfl ?_
      refine WS.pseq rfl ?_
      refine WS.pregion rfl ?_
      refine WS.po (tb := tb) rfl rfl rfl rfl rfl ?_
      refine WS.po (tb := tb) rfl rfl rfl rfl rfl ?_
      refine WS.po (tb := tb) rfl rfl rfl rfl rfl ?_
      refine WS.poW (tb := tb) rfl rfl rfl rfl rfl (by simp only [lo]; omega) (by simp only [Am.hi]; omega) ?_
      refine WS.poDF (tb := tb) rfl rfl rfl rfl rfl (by omega) ?_
      refine WS.pend rfl ?_
      refine WS.pcondF rfl rfl ?_
      refine WS.pout rfl rfl ?_
      rcases ah with _ | ah <;> rcases o with _ | ⟨x, o⟩ <;> rcases b with _ | b <;> exact ⟨rfl, (), trivial, (SeenBy.seen (v := [0,1,2,3,4,5,6]) ⟨rfl, rfl, (by simp [viewP, okL, okV, mapL, mapV, mem_get, mapL_cellsR, okL_cellsR, rmR, tsR, trR, arR, bkL, bkP, slP, ptP]), (by first | exact rfl | exact own2_dist rfl rfl), (by simp only [slotsP, okV, okL, mapV, mapL, and_true, true_and, List.length_cons, List.length_nil, List.length_append, List.length_map, Nat.reduceAdd, Nat.reduceLT, rmR, tsR, trR, arR, bkL, bkP, slP, ptP]; repeat' (first | exact rfl | refine ⟨?_, ?_⟩ | exact lk_m rfl (hmp _ rfl) | exact lk_m rfl (hmp2 _ rfl) | exact hok _ (Nat.le_of_ble_eq_true rfl) | exact hok2 _ (Nat.le_of_ble_eq_true rfl) | exact lk_i rfl (by omega) | exact lk_sl rfl (by omega) (by omega) (by omega) | decide | omega))⟩)⟩
    · rcases t with _ | ⟨r, t⟩
      · simp only [cutG] at g5
        obtain ⟨rfl, rfl⟩ := Prod.mk.inj g5
        have C := ceilR_walk at_ h hm none (by rw [ceil_head, g3]; rfl)
        refine WS.pseq rfl ?_
        refine WS.pseq rfl ?_
        refine WS.pregion rfl ?_
        refine WS.po (tb := tb) rfl rfl rfl rfl rfl ?_
        refine WS.po (tb := tb) rfl rfl rfl rfl rfl ?_
        refine WS.po (tb := tb) rfl rfl rfl rfl rfl ?_
        refine WS.poW (tb := tb) rfl rfl rfl rfl rfl (by simp only [lo]; omega) (by simp only [Am.hi]; omega) ?_
        refine WS.poDT (tb := tb) rfl rfl rfl rfl rfl (by omega) ?_
        refine WS.pend rfl ?_
        refine WS.pcondT rfl rfl ?_
        refine WS.pskip rfl ?_
        refine WS.pblock rfl ?_
        refine WS.pseq rfl ?_
        refine WS.pregion rfl ?_
        refine WS.po (tb := tb) rfl rfl rfl rfl rfl ?_
        refine WS.po (tb := tb) rfl rfl rfl rfl rfl ?_
        refine WS.poP (tb := tb) rfl rfl rfl rfl rfl (by simp only [nl, nz, Nat.reduceAdd, Nat.reduceMul, Int.reduceToNat]; exact rfl) ?_
        refine WS.po (tb := tb) rfl rfl rfl rfl rfl ?_
        refine WS.po (tb := tb) rfl rfl rfl rfl rfl ?_
        refine WS.pcallM (tb := tb) [0,1,2] C rfl rfl rfl rfl rfl (by (try simp only [mapL, mapV, ll]) <;> exact rfl) (by simp [okL, okV, tsR, trR, arR, rA, rB, rC]; fail_if_success exfalso) rfl (by simp [embP, okL, okV, mapL, mapV, mem_next, mem_get, mem_ro, mapL_cellsR, okL_cellsR, tsR, trR, arR, rA, rB, rC]; fail_if_success exfalso) rfl ?_; rintro _ _ ⟨rfl, rfl⟩ -; simp only [plugL, setsL, newsL, isOwn, ownB, over, mapL, mapV, ll, Nat.reduceAdd, Nat.reduceLT, Nat.zero_add, if_true, if_false, Nat.reduceSub, reduceIte, mapL_cellsR, Nat.lt_irrefl, Nat.not_lt_zero, Nat.zero_lt_succ, Nat.lt_add_one, tsR, trR, arR, rA, rB, rC]
        refine WS.po (tb := tb) rfl rfl rfl rfl rfl ?_
        refine WS.po (tb := tb) rfl rfl rfl rfl rfl ?_
        refine WS.po (tb := tb) rfl rfl rfl rfl rfl ?_
        refine WS.po (tb := tb) rfl rfl rfl rfl rfl ?_; rw [new_mem]; simp only [ll, vcells, mem_next, Nat.zero_add, Nat.zero_mul, Nat.reduceAdd, reps, setL, Nat.reduceMul]
        refine WS.po0 (tb := tb) rfl rfl rfl rfl (step_H rfl rfl (evH_store rfl rfl rfl rfl rfl (Nat.zero_le _) rfl (by simp [vcells]) (Nat.le_of_ble_eq_true rfl))) ?_; rw [upd_mem _ rfl]; simp only [vcells, setL, ll]
        refine WS.po (tb := tb) rfl rfl rfl rfl rfl ?_
        refine WS.pend rfl ?_
        refine WS.pseq rfl ?_
        refine WS.pseq rfl ?_
        refine WS.pregion rfl ?_
        refine WS.po (tb := tb) rfl rfl rfl rfl rfl ?_
        refine WS.poB (tb := tb) true rfl rfl rfl rfl rfl rfl ?_
        refine WS.po (tb := tb) rfl rfl rfl rfl rfl ?_
        refine WS.pono rfl rfl rfl rfl ?_
        refine WS.pono rfl rfl rfl rfl ?_
        refine WS.pono rfl rfl rfl rfl ?_
        refine WS.pono rfl rfl rfl rfl ?_
        refine WS.pono rfl rfl rfl rfl ?_
        refine WS.pono rfl rfl rfl rfl ?_
        refine WS.po (tb := tb) rfl rfl rfl rfl rfl ?_
        refine WS.pend rfl ?_
        refine WS.pcondT rfl rfl ?_
        refine WS.pout rfl rfl ?_
        rcases ah with _ | ah <;> rcases o with _ | ⟨x, o⟩ <;> rcases b with _ | b <;> exact ⟨rfl, (), trivial, (SeenBy.seen (v := [0,1,2,3,4,5,6]) ⟨rfl, rfl, (by simp [viewP, okL, okV, mapL, mapV, mem_get, mapL_cellsR, okL_cellsR, rmR, tsR, trR, arR, bkL, bkP, slP, ptP]), (by first | exact rfl | exact own2_dist rfl rfl), (by simp only [slotsP, okV, okL, mapV, mapL, and_true, true_and, List.length_cons, List.length_nil, List.length_append, List.length_map, Nat.reduceAdd, Nat.reduceLT, rmR, tsR, trR, arR, bkL, bkP, slP, ptP]; repeat' (first | exact rfl | refine ⟨?_, ?_⟩ | exact lk_m rfl (hmp _ rfl) | exact lk_m rfl (hmp2 _ rfl) | exact hok _ (Nat.le_of_ble_eq_true rfl) | exact hok2 _ (Nat.le_of_ble_eq_true rfl) | exact lk_i rfl (by omega) | exact lk_sl rfl (by omega) (by omega) (by omega) | decide | omega))⟩)⟩
      · have C := ceilR_walk at_ h hm (some r) (by rw [ceil_head, g3]; rfl)
        have hrm : r ∈ runsT s.T := by
          have : r ∈ geR at_ (runsT s.T) := by rw [g3]; simp
          exact (List.mem_filter.1 this).1
        obtain ⟨a0, a1, b0, b1, c0, c1⟩ := hb r hrm
        simp only [cutG] at g5
        by_cases hra : r.a > lba + n
        · rw [if_pos hra] at g5
          obtain ⟨rfl, rfl⟩ := Prod.mk.inj g5
          refine WS.pseq rfl ?_
          refine WS.pseq rfl ?_
          refine WS.pregion rfl ?_
          refine WS.po (tb := tb) rfl rfl rfl rfl rfl ?_
          refine WS.po (tb := tb) rfl rfl rfl rfl rfl ?_
          refine WS.po (tb := tb) rfl rfl rfl rfl rfl ?_
          refine WS.poW (tb := tb) rfl rfl rfl rfl rfl (by simp only [lo]; omega) (by simp only [Am.hi]; omega) ?_
          refine WS.poDT (tb := tb) rfl rfl rfl rfl rfl (by omega) ?_
          refine WS.pend rfl ?_
          refine WS.pcondT rfl rfl ?_
          refine WS.pskip rfl ?_
          refine WS.pblock rfl ?_
          refine WS.pseq rfl ?_
          refine WS.pregion rfl ?_
          refine WS.po (tb := tb) rfl rfl rfl rfl rfl ?_
          refine WS.po (tb := tb) rfl rfl rfl rfl rfl ?_
          refine WS.poP (tb := tb) rfl rfl rfl rfl rfl (by simp only [nl, nz, Nat.reduceAdd, Nat.reduceMul, Int.reduceToNat]; exact rfl) ?_
          refine WS.po (tb := tb) rfl rfl rfl rfl rfl ?_
          refine WS.po (tb := tb) rfl rfl rfl rfl rfl ?_
          refine WS.pcallM (tb := tb) [0,1,2] C rfl rfl rfl rfl rfl (by (try simp only [mapL, mapV, ll]) <;> exact rfl) (by simp [okL, okV, tsR, trR, arR, rA, rB, rC]; fail_if_success exfalso) rfl (by simp [embP, okL, okV, mapL, mapV, mem_next, mem_get, mem_ro, mapL_cellsR, okL_cellsR, tsR, trR, arR, rA, rB, rC]; fail_if_success exfalso) rfl ?_; rintro _ _ ⟨rfl, rfl⟩ -; simp only [plugL, setsL, newsL, isOwn, ownB, over, mapL, mapV, ll, Nat.reduceAdd, Nat.reduceLT, Nat.zero_add, if_true, if_false, Nat.reduceSub, reduceIte, mapL_cellsR, Nat.lt_irrefl, Nat.not_lt_zero, Nat.zero_lt_succ, Nat.lt_add_one, tsR, trR, arR, rA, rB, rC]
          refine WS.po (tb := tb) rfl rfl rfl rfl rfl ?_
          refine WS.po (tb := tb) rfl rfl rfl rfl rfl ?_
          refine WS.po (tb := tb) rfl rfl rfl rfl rfl ?_
          refine WS.po (tb := tb) rfl rfl rfl rfl rfl ?_; rw [new_mem]; simp only [ll, vcells, mem_next, Nat.zero_add, Nat.zero_mul, Nat.reduceAdd, reps, setL, Nat.reduceMul]
          refine WS.po0 (tb := tb) rfl rfl rfl rfl (step_H rfl rfl (evH_store rfl rfl rfl rfl rfl (Nat.zero_le _) rfl (by simp [vcells]) (Nat.le_of_ble_eq_true rfl))) ?_; rw [upd_mem _ rfl]; simp only [vcells, setL, ll]
          refine WS.po (tb := tb) rfl rfl rfl rfl rfl ?_
          refine WS.pend rfl ?_
          refine WS.pseq rfl ?_
          refine WS.pseq rfl ?_
          refine WS.pregion rfl ?_
          refine WS.po (tb := tb) rfl rfl rfl rfl rfl ?_
          refine WS.poB (tb := tb) false rfl rfl rfl rfl rfl rfl ?_
          refine WS.po (tb := tb) rfl rfl rfl rfl rfl ?_
          refine WS.poP (tb := tb) rfl rfl rfl rfl rfl (by simp only [nl, nz, Nat.reduceAdd, Nat.reduceMul, Int.reduceToNat]; exact rfl) ?_
          refine WS.po (tb := tb) rfl rfl rfl rfl rfl ?_
          refine WS.po (tb := tb) rfl rfl rfl rfl rfl ?_
          refine WS.po (tb := tb) rfl rfl rfl rfl rfl ?_
          refine WS.poW (tb := tb) rfl rfl rfl rfl rfl (by simp only [lo]; omega) (by simp only [Am.hi]; omega) ?_
          refine WS.poDT (tb := tb) rfl rfl rfl rfl rfl (by omega) ?_
          refine WS.po (tb := tb) rfl rfl rfl rfl rfl ?_
          refine WS.pend rfl ?_
          refine WS.pcondT rfl rfl ?_
          refine WS.pout rfl rfl ?_
          rcases ah with _ | ah <;> rcases o with _ | ⟨x, o⟩ <;> rcases b with _ | b <;> exact ⟨rfl, (), trivial, (SeenBy.seen (v := [0,1,2,3,4,5,6]) ⟨rfl, rfl, (by simp [viewP, okL, okV, mapL, mapV, mem_get, mapL_cellsR, okL_cellsR, rmR, tsR, trR, arR, bkL, bkP, slP, ptP]), (by first | exact rfl | exact own2_dist rfl rfl), (by simp only [slotsP, okV, okL, mapV, mapL, and_true, true_and, List.length_cons, List.length_nil, List.length_append, List.length_map, Nat.reduceAdd, Nat.reduceLT, rmR, tsR, trR, arR, bkL, bkP, slP, ptP]; repeat' (first | exact rfl | refine ⟨?_, ?_⟩ | exact lk_m rfl (hmp _ rfl) | exact lk_m rfl (hmp2 _ rfl) | exact hok _ (Nat.le_of_ble_eq_true rfl) | exact hok2 _ (Nat.le_of_ble_eq_true rfl) | exact lk_i rfl (by omega) | exact lk_sl rfl (by omega) (by omega) (by omega) | decide | omega))⟩)⟩
        · rw [if_neg hra] at g5
          have hge : geR (r.a + 1) (runsT s.T) = t := geR_tail hs g3
          obtain ⟨p, hp⟩ : ∃ p, p = past lba n r := ⟨_, rfl⟩
          have hp2 : p = lba + n - r.a := by rw [hp, past]; omega
          have hmx : V.i .i64 (if True then if lba + n - r.a > 0 then lba + n - r.a else 0 else if lba + n - r.a < 0 then lba + n - r.a else 0) = V.i .i64 p := by
            rw [if_pos trivial, hp2]; split <;> congr 1; omega
          rw [← hp] at g5
          simp only [List.length_cons] at g4
          rcases o with _ | ⟨x, o⟩
          · by_cases hbb : r.b > p
            · rw [if_pos hbb] at g5
              simp only [slP, bkL]
              refine WS.pseq rfl ?_
              refine WS.pseq rfl ?_
              refine WS.pregion rfl ?_
              refine WS.po (tb := tb) rfl rfl rfl rfl rfl ?_
              refine WS.po (tb := tb) rfl rfl rfl rfl rfl ?_
              refine WS.po (tb := tb) rfl rfl rfl rfl rfl ?_
              refine WS.poW (tb := tb) rfl rfl rfl rfl rfl (by simp only [lo]; omega) (by simp only [Am.hi]; omega) ?_
              refine WS.poDT (tb := tb) rfl rfl rfl rfl rfl (by omega) ?_
              refine WS.pend rfl ?_
              refine WS.pcondT rfl rfl ?_
              refine WS.pskip rfl ?_
              refine WS.pblock rfl ?_
              refine WS.pseq rfl ?_
              refine WS.pregion rfl ?_
              refine WS.po (tb := tb) rfl rfl rfl rfl rfl ?_
              refine WS.po (tb := tb) rfl rfl rfl rfl rfl ?_
              refine WS.poP (tb := tb) rfl rfl rfl rfl rfl (by simp only [nl, nz, Nat.reduceAdd, Nat.reduceMul, Int.reduceToNat]; exact rfl) ?_
              refine WS.po (tb := tb) rfl rfl rfl rfl rfl ?_
              refine WS.po (tb := tb) rfl rfl rfl rfl rfl ?_
              refine WS.pcallM (tb := tb) [0,1,2] C rfl rfl rfl rfl rfl (by (try simp only [mapL, mapV, ll]) <;> exact rfl) (by simp [okL, okV, tsR, trR, arR, rA, rB, rC]; fail_if_success exfalso) rfl (by simp [embP, okL, okV, mapL, mapV, mem_next, mem_get, mem_ro, mapL_cellsR, okL_cellsR, tsR, trR, arR, rA, rB, rC]; fail_if_success exfalso) rfl ?_; rintro _ _ ⟨rfl, rfl⟩ -; simp only [plugL, setsL, newsL, isOwn, ownB, over, mapL, mapV, ll, Nat.reduceAdd, Nat.reduceLT, Nat.zero_add, if_true, if_false, Nat.reduceSub, reduceIte, mapL_cellsR, Nat.lt_irrefl, Nat.not_lt_zero, Nat.zero_lt_succ, Nat.lt_add_one, tsR, trR, arR, rA, rB, rC]
              refine WS.po (tb := tb) rfl rfl rfl rfl rfl ?_
              refine WS.po (tb := tb) rfl rfl rfl rfl rfl ?_
              refine WS.po (tb := tb) rfl rfl rfl rfl rfl ?_
              refine WS.po (tb := tb) rfl rfl rfl rfl rfl ?_; rw [new_mem]; simp only [ll, vcells, mem_next, Nat.zero_add, Nat.zero_mul, Nat.reduceAdd, reps, setL, Nat.reduceMul]
              refine WS.po0 (tb := tb) rfl rfl rfl rfl (step_H rfl rfl (evH_store rfl rfl rfl rfl rfl (Nat.zero_le _) rfl (by simp [vcells]) (Nat.le_of_ble_eq_true rfl))) ?_; rw [upd_mem _ rfl]; simp only [vcells, setL, ll]
              refine WS.po (tb := tb) rfl rfl rfl rfl rfl ?_
              refine WS.pend rfl ?_
              refine WS.pseq rfl ?_
              refine WS.pseq rfl ?_
              refine WS.pregion rfl ?_
              refine WS.po (tb := tb) rfl rfl rfl rfl rfl ?_
              refine WS.poB (tb := tb) false rfl rfl rfl rfl rfl rfl ?_
              refine WS.po (tb := tb) rfl rfl rfl rfl rfl ?_
              refine WS.poP (tb := tb) rfl rfl rfl rfl rfl (by simp only [nl, nz, Nat.reduceAdd, Nat.reduceMul, Int.reduceToNat]; exact rfl) ?_
              refine WS.po (tb := tb) rfl rfl rfl rfl rfl ?_
              refine WS.po (tb := tb) rfl rfl rfl rfl rfl ?_
              refine WS.po (tb := tb) rfl rfl rfl rfl rfl ?_
              refine WS.poW (tb := tb) rfl rfl rfl rfl rfl (by simp only [lo]; omega) (by simp only [Am.hi]; omega) ?_
              refine WS.poDF (tb := tb) rfl rfl rfl rfl rfl (by omega) ?_
              refine WS.po (tb := tb) rfl rfl rfl rfl rfl ?_
              refine WS.pend rfl ?_
              refine WS.pcondF rfl rfl ?_
              refine WS.pskip rfl ?_
              refine WS.pseq rfl ?_
              refine WS.pregion rfl ?_
              refine WS.po (tb := tb) rfl rfl rfl rfl rfl ?_
              refine WS.poA (tb := tb) rfl rfl rfl rfl rfl (by simp only [List.drop_zero, List.drop_succ_cons, List.take_succ_cons, List.take_zero, rwPl, rwRn, rwVw]; exact rfl) ?_
              refine WS.po (tb := tb) rfl rfl rfl rfl rfl ?_; rw [new_mem]; simp only [ll, vcells, mem_next, Nat.zero_add, Nat.zero_mul, Nat.reduceAdd, reps, setL, Nat.reduceMul]
              refine WS.po (tb := tb) rfl rfl rfl rfl (step_H rfl rfl (evH_append_nil rfl rfl rfl rfl rfl rfl rfl rfl rfl rfl (by omega) (by omega) (cellsAt_all rfl rfl) (by first | exact rfl | (simp only [Pl_len, Rn_len, Vw_len, vcells, List.length_cons, List.length_nil, cellsI_len, cellsB_len, List.length_set, List.length_replicate, List.length_append, List.length_map, List.length_take, List.length_drop]; omega) | omega) (by omega))) ?_; (try rw [upd_mem _ rfl]); (try rw [new_mem]); (try simp only [List.set_cons_zero, List.set_cons_succ, List.cons_append, List.nil_append, mem_next, List.length_cons, List.length_nil, Nat.zero_add, Nat.reduceAdd, List.drop_zero, vcells, cellsI_app1, cellsB_app1, cellsI_cons, repsI, repsB, Pl_app1, Pl_reps, Rn_app1, Rn_reps, Vw_app1, Vw_reps, tsR, trR, arR, rA, rB, rC])
              refine WS.po (tb := tb) rfl rfl rfl rfl rfl ?_
              refine WS.pend rfl ?_
              refine WS.pseq rfl ?_
              refine WS.pseq rfl ?_
              refine WS.pregion rfl ?_
              refine WS.po (tb := tb) rfl rfl rfl rfl rfl ?_
              refine WS.po (tb := tb) rfl rfl rfl rfl rfl ?_
              refine WS.poW (tb := tb) rfl rfl rfl rfl rfl (by simp only [lo]; omega) (by simp only [Am.hi]; omega) ?_
              refine WS.poP (tb := tb) rfl rfl rfl rfl rfl (by simp only [nl, nz, Nat.reduceAdd, Nat.reduceMul, Int.reduceToNat]; exact rfl) ?_
              refine WS.po (tb := tb) rfl rfl rfl rfl rfl ?_
              refine WS.poW (tb := tb) rfl rfl rfl rfl rfl (by simp only [lo]; omega) (by simp only [Am.hi]; omega) ?_
              refine WS.poV (tb := tb) rfl rfl rfl rfl (step_P rfl) hmx ?_
              refine WS.po (tb := tb) rfl rfl rfl rfl rfl ?_
              refine WS.pend rfl ?_
              refine WS.pseq rfl ?_
              refine WS.pregion rfl ?_
              refine WS.poP (tb := tb) rfl rfl rfl rfl rfl (by simp only [nl, nz, Nat.reduceAdd, Nat.reduceMul, Int.reduceToNat]; exact rfl) ?_
              refine WS.po (tb := tb) rfl rfl rfl rfl rfl ?_
              refine WS.po (tb := tb) rfl rfl rfl rfl rfl ?_
              refine WS.poDT (tb := tb) rfl rfl rfl rfl rfl (by omega) ?_
              refine WS.pend rfl ?_
              refine WS.pcondT rfl rfl ?_
              refine WS.pregion rfl ?_
              refine WS.poP (tb := tb) rfl rfl rfl rfl rfl (by simp only [nl, nz, Nat.reduceAdd, Nat.reduceMul, Int.reduceToNat]; exact rfl) ?_
              refine WS.po (tb := tb) rfl rfl rfl rfl rfl ?_
              refine WS.po (tb := tb) rfl rfl rfl rfl rfl ?_
              refine WS.poW (tb := tb) rfl rfl rfl rfl rfl (by simp only [lo]; omega) (by simp only [Am.hi]; omega) ?_
              refine WS.poP (tb := tb) rfl rfl rfl rfl rfl (by simp only [nl, nz, Nat.reduceAdd, Nat.reduceMul, Int.reduceToNat]; exact rfl) ?_
              refine WS.po (tb := tb) rfl rfl rfl rfl rfl ?_
              refine WS.po (tb := tb) rfl rfl rfl rfl rfl ?_
              refine WS.poW (tb := tb) rfl rfl rfl rfl rfl (by simp only [lo]; omega) (by simp only [Am.hi]; omega) ?_
              refine WS.poP (tb := tb) rfl rfl rfl rfl rfl (by simp only [nl, nz, Nat.reduceAdd, Nat.reduceMul, Int.reduceToNat]; exact rfl) ?_
              refine WS.po (tb := tb) rfl rfl rfl rfl rfl ?_
              refine WS.po (tb := tb) rfl rfl rfl rfl rfl ?_
              refine WS.poW (tb := tb) rfl rfl rfl rfl rfl (by simp only [lo]; omega) (by simp only [Am.hi]; omega) ?_
              refine WS.poA (tb := tb) rfl rfl rfl rfl rfl (by simp only [vcells, setL, ll, nl, nz, Nat.reduceAdd, Nat.reduceMul, Int.reduceToNat]; exact rfl) ?_
              refine WS.po (tb := tb) rfl rfl rfl rfl rfl ?_; rw [new_mem]; simp only [ll, vcells, mem_next, Nat.zero_add, Nat.zero_mul, Nat.reduceAdd, reps, setL, Nat.reduceMul]
              refine WS.po (tb := tb) rfl rfl rfl rfl rfl ?_
              refine WS.pend rfl ?_
              refine WS.pregion rfl ?_
              refine WS.poP (tb := tb) rfl rfl rfl rfl rfl (by simp only [nl, nz, Nat.reduceAdd, Nat.reduceMul, Int.reduceToNat]; exact rfl) ?_
              refine WS.po (tb := tb) rfl rfl rfl rfl rfl ?_
              refine WS.poW (tb := tb) rfl rfl rfl rfl rfl (by simp only [lo]; omega) (by simp only [Am.hi]; omega) ?_
              refine WS.po (tb := tb) rfl rfl rfl rfl rfl ?_
              refine WS.pend rfl ?_
              refine WS.bend ?_
              refine WS.nil ?_
              rcases ah with _ | ah <;> rcases b with _ | b <;> exact ⟨⟨r.a + 1, [r], some (offR r p), t⟩, ⟨⟨by simp only; omega, by simp only; omega, hge, by simp only [List.length_cons, List.length_nil]; omega⟩, g5⟩, by simp, (SeenBy.seen (v := [0,1,2,3,9,5,10]) ⟨rfl, rfl, (by simp [viewP, okL, okV, mapL, mapV, mem_get, mapL_cellsR, okL_cellsR, SSc, MMc, rmR, tsR, trR, arR, bkL, bkP, slP, ptP, Rn_one1, offR]), (by first | exact rfl | exact own2_dist rfl rfl), (by simp only [slotsP, okV, okL, mapV, mapL, and_true, true_and, List.length_cons, List.length_nil, List.length_append, List.length_map, Nat.reduceAdd, Nat.reduceLT, SSc, MMc, rmR, tsR, trR, arR, bkL, bkP, slP, ptP, Rn_one1, offR]; repeat' (first | exact rfl | refine ⟨?_, ?_⟩ | exact lk_m rfl (hmp _ rfl) | exact lk_m rfl (hmp2 _ rfl) | exact hok _ (Nat.le_of_ble_eq_true rfl) | exact hok2 _ (Nat.le_of_ble_eq_true rfl) | exact lk_i rfl (by omega) | exact lk_sl rfl (by omega) (by omega) (by omega) | decide | omega))⟩)⟩
            · rw [if_neg hbb] at g5
              simp only [slP, bkL]
              refine WS.pseq rfl ?_
              refine WS.pseq rfl ?_
              refine WS.pregion rfl ?_
              refine WS.po (tb := tb) rfl rfl rfl rfl rfl ?_
              refine WS.po (tb := tb) rfl rfl rfl rfl rfl ?_
              refine WS.po (tb := tb) rfl rfl rfl rfl rfl ?_
              refine WS.poW (tb := tb) rfl rfl rfl rfl rfl (by simp only [lo]; omega) (by simp only [Am.hi]; omega) ?_
              refine WS.poDT (tb := tb) rfl rfl rfl rfl rfl (by omega) ?_
              refine WS.pend rfl ?_
              refine WS.pcondT rfl rfl ?_
              refine WS.pskip rfl ?_
              refine WS.pblock rfl ?_
              refine WS.pseq rfl ?_
              refine WS.pregion rfl ?_
              refine WS.po (tb := tb) rfl rfl rfl rfl rfl ?_
              refine WS.po (tb := tb) rfl rfl rfl rfl rfl ?_
              refine WS.poP (tb := tb) rfl rfl rfl rfl rfl (by simp only [nl, nz, Nat.reduceAdd, Nat.reduceMul, Int.reduceToNat]; exact rfl) ?_
              refine WS.po (tb := tb) rfl rfl rfl rfl rfl ?_
              refine WS.po (tb := tb) rfl rfl rfl rfl rfl ?_
              refine WS.pcallM (tb := tb) [0,1,2] C rfl rfl rfl rfl rfl (by (try simp only [mapL, mapV, ll]) <;> exact rfl) (by simp [okL, okV, tsR, trR, arR, rA, rB, rC]; fail_if_success exfalso) rfl (by simp [embP, okL, okV, mapL, mapV, mem_next, mem_get, mem_ro, mapL_cellsR, okL_cellsR, tsR, trR, arR, rA, rB, rC]; fail_if_success exfalso) rfl ?_; rintro _ _ ⟨rfl, rfl⟩ -; simp only [plugL, setsL, newsL, isOwn, ownB, over, mapL, mapV, ll, Nat.reduceAdd, Nat.reduceLT, Nat.zero_add, if_true, if_false, Nat.reduceSub, reduceIte, mapL_cellsR, Nat.lt_irrefl, Nat.not_lt_zero, Nat.zero_lt_succ, Nat.lt_add_one, tsR, trR, arR, rA, rB, rC]
              refine WS.po (tb := tb) rfl rfl rfl rfl rfl ?_
              refine WS.po (tb := tb) rfl rfl rfl rfl rfl ?_
              refine WS.po (tb := tb) rfl rfl rfl rfl rfl ?_
              refine WS.po (tb := tb) rfl rfl rfl rfl rfl ?_; rw [new_mem]; simp only [ll, vcells, mem_next, Nat.zero_add, Nat.zero_mul, Nat.reduceAdd, reps, setL, Nat.reduceMul]
              refine WS.po0 (tb := tb) rfl rfl rfl rfl (step_H rfl rfl (evH_store rfl rfl rfl rfl rfl (Nat.zero_le _) rfl (by simp [vcells]) (Nat.le_of_ble_eq_true rfl))) ?_; rw [upd_mem _ rfl]; simp only [vcells, setL, ll]
              refine WS.po (tb := tb) rfl rfl rfl rfl rfl ?_
              refine WS.pend rfl ?_
              refine WS.pseq rfl ?_
              refine WS.pseq rfl ?_
              refine WS.pregion rfl ?_
              refine WS.po (tb := tb) rfl rfl rfl rfl rfl ?_
              refine WS.poB (tb := tb) false rfl rfl rfl rfl rfl rfl ?_
              refine WS.po (tb := tb) rfl rfl rfl rfl rfl ?_
              refine WS.poP (tb := tb) rfl rfl rfl rfl rfl (by simp only [nl, nz, Nat.reduceAdd, Nat.reduceMul, Int.reduceToNat]; exact rfl) ?_
              refine WS.po (tb := tb) rfl rfl rfl rfl rfl ?_
              refine WS.po (tb := tb) rfl rfl rfl rfl rfl ?_
              refine WS.po (tb := tb) rfl rfl rfl rfl rfl ?_
              refine WS.poW (tb := tb) rfl rfl rfl rfl rfl (by simp only [lo]; omega) (by simp only [Am.hi]; omega) ?_
              refine WS.poDF (tb := tb) rfl rfl rfl rfl rfl (by omega) ?_
              refine WS.po (tb := tb) rfl rfl rfl rfl rfl ?_
              refine WS.pend rfl ?_
              refine WS.pcondF rfl rfl ?_
              refine WS.pskip rfl ?_
              refine WS.pseq rfl ?_
              refine WS.pregion rfl ?_
              refine WS.po (tb := tb) rfl rfl rfl rfl rfl ?_
              refine WS.poA (tb := tb) rfl rfl rfl rfl rfl (by simp only [List.drop_zero, List.drop_succ_cons, List.take_succ_cons, List.take_zero, rwPl, rwRn, rwVw]; exact rfl) ?_
              refine WS.po (tb := tb) rfl rfl rfl rfl rfl ?_; rw [new_mem]; simp only [ll, vcells, mem_next, Nat.zero_add, Nat.zero_mul, Nat.reduceAdd, reps, setL, Nat.reduceMul]
              refine WS.po (tb := tb) rfl rfl rfl rfl (step_H rfl rfl (evH_append_nil rfl rfl rfl rfl rfl rfl rfl rfl rfl rfl (by omega) (by omega) (cellsAt_all rfl rfl) (by first | exact rfl | (simp only [Pl_len, Rn_len, Vw_len, vcells, List.length_cons, List.length_nil, cellsI_len, cellsB_len, List.length_set, List.length_replicate, List.length_append, List.length_map, List.length_take, List.length_drop]; omega) | omega) (by omega))) ?_; (try rw [upd_mem _ rfl]); (try rw [new_mem]); (try simp only [List.set_cons_zero, List.set_cons_succ, List.cons_append, List.nil_append, mem_next, List.length_cons, List.length_nil, Nat.zero_add, Nat.reduceAdd, List.drop_zero, vcells, cellsI_app1, cellsB_app1, cellsI_cons, repsI, repsB, Pl_app1, Pl_reps, Rn_app1, Rn_reps, Vw_app1, Vw_reps, tsR, trR, arR, rA, rB, rC])
              refine WS.po (tb := tb) rfl rfl rfl rfl rfl ?_
              refine WS.pend rfl ?_
              refine WS.pseq rfl ?_
              refine WS.pseq rfl ?_
              refine WS.pregion rfl ?_
              refine WS.po (tb := tb) rfl rfl rfl rfl rfl ?_
              refine WS.po (tb := tb) rfl rfl rfl rfl rfl ?_
              refine WS.poW (tb := tb) rfl rfl rfl rfl rfl (by simp only [lo]; omega) (by simp only [Am.hi]; omega) ?_
              refine WS.poP (tb := tb) rfl rfl rfl rfl rfl (by simp only [nl, nz, Nat.reduceAdd, Nat.reduceMul, Int.reduceToNat]; exact rfl) ?_
              refine WS.po (tb := tb) rfl rfl rfl rfl rfl ?_
              refine WS.poW (tb := tb) rfl rfl rfl rfl rfl (by simp only [lo]; omega) (by simp only [Am.hi]; omega) ?_
              refine WS.poV (tb := tb) rfl rfl rfl rfl (step_P rfl) hmx ?_
              refine WS.po (tb := tb) rfl rfl rfl rfl rfl ?_
              refine WS.pend rfl ?_
              refine WS.pseq rfl ?_
              refine WS.pregion rfl ?_
              refine WS.poP (tb := tb) rfl rfl rfl rfl rfl (by simp only [nl, nz, Nat.reduceAdd, Nat.reduceMul, Int.reduceToNat]; exact rfl) ?_
              refine WS.po (tb := tb) rfl rfl rfl rfl rfl ?_
              refine WS.po (tb := tb) rfl rfl rfl rfl rfl ?_
              refine WS.poDF (tb := tb) rfl rfl rfl rfl rfl (by omega) ?_
              refine WS.pend rfl ?_
              refine WS.pcondF rfl rfl ?_
              refine WS.pskip rfl ?_
              refine WS.pregion rfl ?_
              refine WS.poP (tb := tb) rfl rfl rfl rfl rfl (by simp only [nl, nz, Nat.reduceAdd, Nat.reduceMul, Int.reduceToNat]; exact rfl) ?_
              refine WS.po (tb := tb) rfl rfl rfl rfl rfl ?_
              refine WS.poW (tb := tb) rfl rfl rfl rfl rfl (by simp only [lo]; omega) (by simp only [Am.hi]; omega) ?_
              refine WS.po (tb := tb) rfl rfl rfl rfl rfl ?_
              refine WS.pend rfl ?_
              refine WS.bend ?_
              refine WS.nil ?_
              rcases ah with _ | ah <;> rcases b with _ | b <;> exact ⟨⟨r.a + 1, [r], _, t⟩, ⟨⟨by simp only; omega, by simp only; omega, hge, by simp only [List.length_cons, List.length_nil]; omega⟩, g5⟩, by simp, (SeenBy.seen (v := [0,1,2,3,9,5,6]) ⟨rfl, rfl, (by simp [viewP, okL, okV, mapL, mapV, mem_get, mapL_cellsR, okL_cellsR, SSc, MMc, rmR, tsR, trR, arR, bkL, bkP, slP, ptP, Rn_one1, offR]), (by first | exact rfl | exact own2_dist rfl rfl), (by simp only [slotsP, okV, okL, mapV, mapL, and_true, true_and, List.length_cons, List.length_nil, List.length_append, List.length_map, Nat.reduceAdd, Nat.reduceLT, SSc, MMc, rmR, tsR, trR, arR, bkL, bkP, slP, ptP, Rn_one1, offR]; repeat' (first | exact rfl | refine ⟨?_, ?_⟩ | exact lk_m rfl (hmp _ rfl) | exact lk_m rfl (hmp2 _ rfl) | exact hok _ (Nat.le_of_ble_eq_true rfl) | exact hok2 _ (Nat.le_of_ble_eq_true rfl) | exact lk_i rfl (by omega) | exact lk_sl rfl (by omega) (by omega) (by omega) | decide | omega))⟩)⟩
          · have hol : o.length ≤ 600 := by simp only [List.length_cons] at g4; omega
            by_cases hbb : r.b > p
            · rw [if_pos hbb] at g5
              simp only [slP, bkL]
              refine WS.pseq rfl ?_
              refine WS.pseq rfl ?_
              refine WS.pregion rfl ?_
              refine WS.po (tb := tb) rfl rfl rfl rfl rfl ?_
              refine WS.po (tb := tb) rfl rfl rfl rfl rfl ?_
              refine WS.po (tb := tb) rfl rfl rfl rfl rfl ?_
              refine WS.poW (tb := tb) rfl rfl rfl rfl rfl (by simp only [lo]; omega) (by simp only [Am.hi]; omega) ?_
              refine WS.poDT (tb := tb) rfl rfl rfl rfl rfl (by omega) ?_
              refine WS.pend rfl ?_
              refine WS.pcondT rfl rfl ?_
              refine WS.pskip rfl ?_
              refine WS.pblock rfl ?_
              refine WS.pseq rfl ?_
              refine WS.pregion rfl ?_
              refine WS.po (tb := tb) rfl rfl rfl rfl rfl ?_
              refine WS.po (tb := tb) rfl rfl rfl rfl rfl ?_
              refine WS.poP (tb := tb) rfl rfl rfl rfl rfl (by simp only [nl, nz, Nat.reduceAdd, Nat.reduceMul, Int.reduceToNat]; exact rfl) ?_
              refine WS.po (tb := tb) rfl rfl rfl rfl rfl ?_
              refine WS.po (tb := tb) rfl rfl rfl rfl rfl ?_
              refine WS.pcallM (tb := tb) [0,1,2] C rfl rfl rfl rfl rfl (by (try simp only [mapL, mapV, ll]) <;> exact rfl) (by simp [okL, okV, tsR, trR, arR, rA, rB, rC]; fail_if_success exfalso) rfl (by simp [embP, okL, okV, mapL, mapV, mem_next, mem_get, mem_ro, mapL_cellsR, okL_cellsR, tsR, trR, arR, rA, rB, rC]; fail_if_success exfalso) rfl ?_; rintro _ _ ⟨rfl, rfl⟩ -; simp only [plugL, setsL, newsL, isOwn, ownB, over, mapL, mapV, ll, Nat.reduceAdd, Nat.reduceLT, Nat.zero_add, if_true, if_false, Nat.reduceSub, reduceIte, mapL_cellsR, Nat.lt_irrefl, Nat.not_lt_zero, Nat.zero_lt_succ, Nat.lt_add_one, tsR, trR, arR, rA, rB, rC]
              refine WS.po (tb := tb) rfl rfl rfl rfl rfl ?_
              refine WS.po (tb := tb) rfl rfl rfl rfl rfl ?_
              refine WS.po (tb := tb) rfl rfl rfl rfl rfl ?_
              refine WS.po (tb := tb) rfl rfl rfl rfl rfl ?_; rw [new_mem]; simp only [ll, vcells, mem_next, Nat.zero_add, Nat.zero_mul, Nat.reduceAdd, reps, setL, Nat.reduceMul]
              refine WS.po0 (tb := tb) rfl rfl rfl rfl (step_H rfl rfl (evH_store rfl rfl rfl rfl rfl (Nat.zero_le _) rfl (by simp [vcells]) (Nat.le_of_ble_eq_true rfl))) ?_; rw [upd_mem _ rfl]; simp only [vcells, setL, ll]
              refine WS.po (tb := tb) rfl rfl rfl rfl rfl ?_
              refine WS.pend rfl ?_
              refine WS.pseq rfl ?_
              refine WS.pseq rfl ?_
              refine WS.pregion rfl ?_
              refine WS.po (tb := tb) rfl rfl rfl rfl rfl ?_
              refine WS.poB (tb := tb) false rfl rfl rfl rfl rfl rfl ?_
              refine WS.po (tb := tb) rfl rfl rfl rfl rfl ?_
              refine WS.poP (tb := tb) rfl rfl rfl rfl rfl (by simp only [nl, nz, Nat.reduceAdd, Nat.reduceMul, Int.reduceToNat]; exact rfl) ?_
              refine WS.po (tb := tb) rfl rfl rfl rfl rfl ?_
              refine WS.po (tb := tb) rfl rfl rfl rfl rfl ?_
              refine WS.po (tb := tb) rfl rfl rfl rfl rfl ?_
              refine WS.poW (tb := tb) rfl rfl rfl rfl rfl (by simp only [lo]; omega) (by simp only [Am.hi]; omega) ?_
              refine WS.poDF (tb := tb) rfl rfl rfl rfl rfl (by omega) ?_
              refine WS.po (tb := tb) rfl rfl rfl rfl rfl ?_
              refine WS.pend rfl ?_
              refine WS.pcondF rfl rfl ?_
              refine WS.pskip rfl ?_
              refine WS.pseq rfl ?_
              refine WS.pregion rfl ?_
              refine WS.po (tb := tb) rfl rfl rfl rfl rfl ?_
              refine WS.poA (tb := tb) rfl rfl rfl rfl rfl (by simp only [List.drop_zero, List.drop_succ_cons, List.take_succ_cons, List.take_zero, rwPl, rwRn, rwVw]; exact rfl) ?_
              refine WS.po (tb := tb) rfl rfl rfl rfl rfl ?_; rw [new_mem]; simp only [ll, vcells, mem_next, Nat.zero_add, Nat.zero_mul, Nat.reduceAdd, reps, setL, Nat.reduceMul]
              refine WS.po (tb := tb) rfl rfl rfl rfl (step_H rfl rfl (evH_append_open rfl rfl rfl rfl rfl rfl rfl rfl rfl (by omega) rfl (Nat.zero_le _) (by omega) (cellsAt_all rfl rfl) (by first | exact rfl | (simp only [Pl_len, Rn_len, Vw_len, vcells, List.length_cons, List.length_nil, cellsI_len, cellsB_len, List.length_set, List.length_replicate, List.length_append, List.length_map, List.length_take, List.length_drop]; omega) | omega) (by first | exact rfl | (simp only [Pl_len, Rn_len, Vw_len, vcells, List.length_cons, List.length_nil, cellsI_len, cellsB_len, List.length_set, List.length_replicate, List.length_append, List.length_map, List.length_take, List.length_drop]; omega) | omega) rfl (by omega))) ?_; (try rw [upd_mem _ rfl]); (try rw [new_mem]); (try simp only [List.set_cons_zero, List.set_cons_succ, List.cons_append, List.nil_append, mem_next, List.length_cons, List.length_nil, Nat.zero_add, Nat.reduceAdd, List.drop_zero, vcells, cellsI_app1, cellsB_app1, cellsI_cons, repsI, repsB, Pl_app1, Pl_reps, Rn_app1, Rn_reps, Vw_app1, Vw_reps, tsR, trR, arR, rA, rB, rC])
              refine WS.po (tb := tb) rfl rfl rfl rfl rfl ?_
              refine WS.pend rfl ?_
              refine WS.pseq rfl ?_
              refine WS.pseq rfl ?_
              refine WS.pregion rfl ?_
              refine WS.po (tb := tb) rfl rfl rfl rfl rfl ?_
              refine WS.po (tb := tb) rfl rfl rfl rfl rfl ?_
              refine WS.poW (tb := tb) rfl rfl rfl rfl rfl (by simp only [lo]; omega) (by simp only [Am.hi]; omega) ?_
              refine WS.poP (tb := tb) rfl rfl rfl rfl rfl (by simp only [nl, nz, Nat.reduceAdd, Nat.reduceMul, Int.reduceToNat]; exact rfl) ?_
              refine WS.po (tb := tb) rfl rfl rfl rfl rfl ?_
              refine WS.poW (tb := tb) rfl rfl rfl rfl rfl (by simp only [lo]; omega) (by simp only [Am.hi]; omega) ?_
              refine WS.poV (tb := tb) rfl rfl rfl rfl (step_P rfl) hmx ?_
              refine WS.po (tb := tb) rfl rfl rfl rfl rfl ?_
              refine WS.pend rfl ?_
              refine WS.pseq rfl ?_
              refine WS.pregion rfl ?_
              refine WS.poP (tb := tb) rfl rfl rfl rfl rfl (by simp only [nl, nz, Nat.reduceAdd, Nat.reduceMul, Int.reduceToNat]; exact rfl) ?_
              refine WS.po (tb := tb) rfl rfl rfl rfl rfl ?_
              refine WS.po (tb := tb) rfl rfl rfl rfl rfl ?_
              refine WS.poDT (tb := tb) rfl rfl rfl rfl rfl (by omega) ?_
              refine WS.pend rfl ?_
              refine WS.pcondT rfl rfl ?_
              refine WS.pregion rfl ?_
              refine WS.poP (tb := tb) rfl rfl rfl rfl rfl (by simp only [nl, nz, Nat.reduceAdd, Nat.reduceMul, Int.reduceToNat]; exact rfl) ?_
              refine WS.po (tb := tb) rfl rfl rfl rfl rfl ?_
              refine WS.po (tb := tb) rfl rfl rfl rfl rfl ?_
              refine WS.poW (tb := tb) rfl rfl rfl rfl rfl (by simp only [lo]; omega) (by simp only [Am.hi]; omega) ?_
              refine WS.poP (tb := tb) rfl rfl rfl rfl rfl (by simp only [nl, nz, Nat.reduceAdd, Nat.reduceMul, Int.reduceToNat]; exact rfl) ?_
              refine WS.po (tb := tb) rfl rfl rfl rfl rfl ?_
              refine WS.po (tb := tb) rfl rfl rfl rfl rfl ?_
              refine WS.poW (tb := tb) rfl rfl rfl rfl rfl (by simp only [lo]; omega) (by simp only [Am.hi]; omega) ?_
              refine WS.poP (tb := tb) rfl rfl rfl rfl rfl (by simp only [nl, nz, Nat.reduceAdd, Nat.reduceMul, Int.reduceToNat]; exact rfl) ?_
              refine WS.po (tb := tb) rfl rfl rfl rfl rfl ?_
              refine WS.po (tb := tb) rfl rfl rfl rfl rfl ?_
              refine WS.poW (tb := tb) rfl rfl rfl rfl rfl (by simp only [lo]; omega) (by simp only [Am.hi]; omega) ?_
              refine WS.poA (tb := tb) rfl rfl rfl rfl rfl (by simp only [vcells, setL, ll, nl, nz, Nat.reduceAdd, Nat.reduceMul, Int.reduceToNat]; exact rfl) ?_
              refine WS.po (tb := tb) rfl rfl rfl rfl rfl ?_; rw [new_mem]; simp only [ll, vcells, mem_next, Nat.zero_add, Nat.zero_mul, Nat.reduceAdd, reps, setL, Nat.reduceMul]
              refine WS.po (tb := tb) rfl rfl rfl rfl rfl ?_
              refine WS.pend rfl ?_
              refine WS.pregion rfl ?_
              refine WS.poP (tb := tb) rfl rfl rfl rfl rfl (by simp only [nl, nz, Nat.reduceAdd, Nat.reduceMul, Int.reduceToNat]; exact rfl) ?_
              refine WS.po (tb := tb) rfl rfl rfl rfl rfl ?_
              refine WS.poW (tb := tb) rfl rfl rfl rfl rfl (by simp only [lo]; omega) (by simp only [Am.hi]; omega) ?_
              refine WS.po (tb := tb) rfl rfl rfl rfl rfl ?_
              refine WS.pend rfl ?_
              refine WS.bend ?_
              refine WS.nil ?_
              rcases ah with _ | ah <;> rcases b with _ | b <;> exact ⟨⟨r.a + 1, x :: (o ++ [r]), some (offR r p), t⟩, ⟨⟨by simp only; omega, by simp only; omega, hge, by simp only [List.length_cons, List.length_append, List.length_nil] at g4 ⊢; omega⟩, g5⟩, by simp, (SeenBy.seen (v := [0,1,2,3,9,5,10]) ⟨rfl, rfl, (by simp [viewP, okL, okV, mapL, mapV, mem_get, mapL_cellsR, okL_cellsR, SSc, MMc, rmR, tsR, trR, arR, bkL, bkP, slP, ptP, Rn_one1, offR]), (by first | exact rfl | exact own2_dist rfl rfl), (by simp only [slotsP, okV, okL, mapV, mapL, and_true, true_and, List.length_cons, List.length_nil, List.length_append, List.length_map, Nat.reduceAdd, Nat.reduceLT, SSc, MMc, rmR, tsR, trR, arR, bkL, bkP, slP, ptP, Rn_one1, offR]; repeat' (first | exact rfl | refine ⟨?_, ?_⟩ | exact lk_m rfl (hmp _ rfl) | exact lk_m rfl (hmp2 _ rfl) | exact hok _ (Nat.le_of_ble_eq_true rfl) | exact hok2 _ (Nat.le_of_ble_eq_true rfl) | exact lk_i rfl (by omega) | exact lk_sl rfl (by omega) (by omega) (by omega) | decide | omega))⟩)⟩
            · rw [if_neg hbb] at g5
              simp only [slP, bkL]
              refine WS.pseq rfl ?_
              refine WS.pseq rfl ?_
              refine WS.pregion rfl ?_
              refine WS.po (tb := tb) rfl rfl rfl rfl rfl ?_
              refine WS.po (tb := tb) rfl rfl rfl rfl rfl ?_
              refine WS.po (tb := tb) rfl rfl rfl rfl rfl ?_
              refine WS.poW (tb := tb) rfl rfl rfl rfl rfl (by simp only [lo]; omega) (by simp only [Am.hi]; omega) ?_
              refine WS.poDT (tb := tb) rfl rfl rfl rfl rfl (by omega) ?_
              refine WS.pend rfl ?_
              refine WS.pcondT rfl rfl ?_
              refine WS.pskip rfl ?_
              refine WS.pblock rfl ?_
              refine WS.pseq rfl ?_
              refine WS.pregion rfl ?_
              refine WS.po (tb := tb) rfl rfl rfl rfl rfl ?_
              refine WS.po (tb := tb) rfl rfl rfl rfl rfl ?_
              refine WS.poP (tb := tb) rfl rfl rfl rfl rfl (by simp only [nl, nz, Nat.reduceAdd, Nat.reduceMul, Int.reduceToNat]; exact rfl) ?_
              refine WS.po (tb := tb) rfl rfl rfl rfl rfl ?_
              refine WS.po (tb := tb) rfl rfl rfl rfl rfl ?_
              refine WS.pcallM (tb := tb) [0,1,2] C rfl rfl rfl rfl rfl (by (try simp only [mapL, mapV, ll]) <;> exact rfl) (by simp [okL, okV, tsR, trR, arR, rA, rB, rC]; fail_if_success exfalso) rfl (by simp [embP, okL, okV, mapL, mapV, mem_next, mem_get, mem_ro, mapL_cellsR, okL_cellsR, tsR, trR, arR, rA, rB, rC]; fail_if_success exfalso) rfl ?_; rintro _ _ ⟨rfl, rfl⟩ -; simp only [plugL, setsL, newsL, isOwn, ownB, over, mapL, mapV, ll, Nat.reduceAdd, Nat.reduceLT, Nat.zero_add, if_true, if_false, Nat.reduceSub, reduceIte, mapL_cellsR, Nat.lt_irrefl, Nat.not_lt_zero, Nat.zero_lt_succ, Nat.lt_add_one, tsR, trR, arR, rA, rB, rC]
              refine WS.po (tb := tb) rfl rfl rfl rfl rfl ?_
              refine WS.po (tb := tb) rfl rfl rfl rfl rfl ?_
              refine WS.po (tb := tb) rfl rfl rfl rfl rfl ?_
              refine WS.po (tb := tb) rfl rfl rfl rfl rfl ?_; rw [new_mem]; simp only [ll, vcells, mem_next, Nat.zero_add, Nat.zero_mul, Nat.reduceAdd, reps, setL, Nat.reduceMul]
              refine WS.po0 (tb := tb) rfl rfl rfl rfl (step_H rfl rfl (evH_store rfl rfl rfl rfl rfl (Nat.zero_le _) rfl (by simp [vcells]) (Nat.le_of_ble_eq_true rfl))) ?_; rw [upd_mem _ rfl]; simp only [vcells, setL, ll]
              refine WS.po (tb := tb) rfl rfl rfl rfl rfl ?_
              refine WS.pend rfl ?_
              refine WS.pseq rfl ?_
              refine WS.pseq rfl ?_
              refine WS.pregion rfl ?_
              refine WS.po (tb := tb) rfl rfl rfl rfl rfl ?_
              refine WS.poB (tb := tb) false rfl rfl rfl rfl rfl rfl ?_
              refine WS.po (tb := tb) rfl rfl rfl rfl rfl ?_
              refine WS.poP (tb := tb) rfl rfl rfl rfl rfl (by simp only [nl, nz, Nat.reduceAdd, Nat.reduceMul, Int.reduceToNat]; exact rfl) ?_
              refine WS.po (tb := tb) rfl rfl rfl rfl rfl ?_
              refine WS.po (tb := tb) rfl rfl rfl rfl rfl ?_
              refine WS.po (tb := tb) rfl rfl rfl rfl rfl ?_
              refine WS.poW (tb := tb) rfl rfl rfl rfl rfl (by simp only [lo]; omega) (by simp only [Am.hi]; omega) ?_
              refine WS.poDF (tb := tb) rfl rfl rfl rfl rfl (by omega) ?_
              refine WS.po (tb := tb) rfl rfl rfl rfl rfl ?_
              refine WS.pend rfl ?_
              refine WS.pcondF rfl rfl ?_
              refine WS.pskip rfl ?_
              refine WS.pseq rfl ?_
              refine WS.pregion rfl ?_
              refine WS.po (tb := tb) rfl rfl rfl rfl rfl ?_
              refine WS.poA (tb := tb) rfl rfl rfl rfl rfl (by simp only [List.drop_zero, List.drop_succ_cons, List.take_succ_cons, List.take_zero, rwPl, rwRn, rwVw]; exact rfl) ?_
              refine WS.po (tb := tb) rfl rfl rfl rfl rfl ?_; rw [new_mem]; simp only [ll, vcells, mem_next, Nat.zero_add, Nat.zero_mul, Nat.reduceAdd, reps, setL, Nat.reduceMul]
              refine WS.po (tb := tb) rfl rfl rfl rfl (step_H rfl rfl (evH_append_open rfl rfl rfl rfl rfl rfl rfl rfl rfl (by omega) rfl (Nat.zero_le _) (by omega) (cellsAt_all rfl rfl) (by first | exact rfl | (simp only [Pl_len, Rn_len, Vw_len, vcells, List.length_cons, List.length_nil, cellsI_len, cellsB_len, List.length_set, List.length_replicate, List.length_append, List.length_map, List.length_take, List.length_drop]; omega) | omega) (by first | exact rfl | (simp only [Pl_len, Rn_len, Vw_len, vcells, List.length_cons, List.length_nil, cellsI_len, cellsB_len, List.length_set, List.length_replicate, List.length_append, List.length_map, List.length_take, List.length_drop]; omega) | omega) rfl (by omega))) ?_; (try rw [upd_mem _ rfl]); (try rw [new_mem]); (try simp only [List.set_cons_zero, List.set_cons_succ, List.cons_append, List.nil_append, mem_next, List.length_cons, List.length_nil, Nat.zero_add, Nat.reduceAdd, List.drop_zero, vcells, cellsI_app1, cellsB_app1, cellsI_cons, repsI, repsB, Pl_app1, Pl_reps, Rn_app1, Rn_reps, Vw_app1, Vw_reps, tsR, trR, arR, rA, rB, rC])
              refine WS.po (tb := tb) rfl rfl rfl rfl rfl ?_
              refine WS.pend rfl ?_
              refine WS.pseq rfl ?_
              refine WS.pseq rfl ?_
              refine WS.pregion rfl ?_
              refine WS.po (tb := tb) rfl rfl rfl rfl rfl ?_
              refine WS.po (tb := tb) rfl rfl rfl rfl rfl ?_
              refine WS.poW (tb := tb) rfl rfl rfl rfl rfl (by simp only [lo]; omega) (by simp only [Am.hi]; omega) ?_
              refine WS.poP (tb := tb) rfl rfl rfl rfl rfl (by simp only [nl, nz, Nat.reduceAdd, Nat.reduceMul, Int.reduceToNat]; exact rfl) ?_
              refine WS.po (tb := tb) rfl rfl rfl rfl rfl ?_
              refine WS.poW (tb := tb) rfl rfl rfl rfl rfl (by simp only [lo]; omega) (by simp only [Am.hi]; omega) ?_
              refine WS.poV (tb := tb) rfl rfl rfl rfl (step_P rfl) hmx ?_
              refine WS.po (tb := tb) rfl rfl rfl rfl rfl ?_
              refine WS.pend rfl ?_
              refine WS.pseq rfl ?_
              refine WS.pregion rfl ?_
              refine WS.poP (tb := tb) rfl rfl rfl rfl rfl (by simp only [nl, nz, Nat.reduceAdd, Nat.reduceMul, Int.reduceToNat]; exact rfl) ?_
              refine WS.po (tb := tb) rfl rfl rfl rfl rfl ?_
              refine WS.po (tb := tb) rfl rfl rfl rfl rfl ?_
              refine WS.poDF (tb := tb) rfl rfl rfl rfl rfl (by omega) ?_
              refine WS.pend rfl ?_
              refine WS.pcondF rfl rfl ?_
              refine WS.pskip rfl ?_
              refine WS.pregion rfl ?_
              refine WS.poP (tb := tb) rfl rfl rfl rfl rfl (by simp only [nl, nz, Nat.reduceAdd, Nat.reduceMul, Int.reduceToNat]; exact rfl) ?_
              refine WS.po (tb := tb) rfl rfl rfl rfl rfl ?_
              refine WS.poW (tb := tb) rfl rfl rfl rfl rfl (by simp only [lo]; omega) (by simp only [Am.hi]; omega) ?_
              refine WS.po (tb := tb) rfl rfl rfl rfl rfl ?_
              refine WS.pend rfl ?_
              refine WS.bend ?_
              refine WS.nil ?_
              rcases ah with _ | ah <;> rcases b with _ | b <;> exact ⟨⟨r.a + 1, x :: (o ++ [r]), _, t⟩, ⟨⟨by simp only; omega, by simp only; omega, hge, by simp only [List.length_cons, List.length_append, List.length_nil] at g4 ⊢; omega⟩, g5⟩, by simp, (SeenBy.seen (v := [0,1,2,3,9,5,6]) ⟨rfl, rfl, (by simp [viewP, okL, okV, mapL, mapV, mem_get, mapL_cellsR, okL_cellsR, SSc, MMc, rmR, tsR, trR, arR, bkL, bkP, slP, ptP, Rn_one1, offR]), (by first | exact rfl | exact own2_dist rfl rfl), (by simp only [slotsP, okV, okL, mapV, mapL, and_true, true_and, List.length_cons, List.length_nil, List.length_append, List.length_map, Nat.reduceAdd, Nat.reduceLT, SSc, MMc, rmR, tsR, trR, arR, bkL, bkP, slP, ptP, Rn_one1, offR]; repeat' (first | exact rfl | refine ⟨?_, ?_⟩ | exact lk_m rfl (hmp _ rfl) | exact lk_m rfl (hmp2 _ rfl) | exact hok _ (Nat.le_of_ble_eq_true rfl) | exact hok2 _ (Nat.le_of_ble_eq_true rfl) | exact lk_i rfl (by omega) | exact lk_sl rfl (by omega) (by omega) (by omega) | decide | omega))⟩)⟩
  · rintro _ -
    simp only [rmR, tsR, trR, arR, List.cons_append, List.nil_append]
    refine WS.pseq rfl ?_
    refine WS.pregion rfl ?_
    refine WS.po (tb := tb) rfl rfl rfl rfl rfl ?_
    refine WS.po (tb := tb) rfl rfl rfl rfl rfl ?_
    refine WS.po (tb := tb) rfl rfl rfl rfl rfl ?_
    refine WS.po (tb := tb) rfl rfl rfl rfl rfl ?_
    refine WS.po (tb := tb) rfl rfl rfl rfl rfl ?_
    refine WS.po (tb := tb) rfl rfl rfl rfl rfl ?_
    refine WS.pend rfl ?_
    refine WS.pret rfl ⟨.inr rfl, _, rfl, ?_⟩
    exact ⟨_, rfl, [0,1,2,3,4,5,6], rmR cap most s ++ [bkL o9, bkP ah, bkP b9], .tup [slP 4 o9, ptP 5 ah, ptP 6 b9], cut_end cap most s o9 ah b9, (cut_endV o9 ah b9).1, (cut_endV o9 ah b9).2, rfl, rfl⟩
end Go.Proofs.Ytdeeancepelkiaa.Am

